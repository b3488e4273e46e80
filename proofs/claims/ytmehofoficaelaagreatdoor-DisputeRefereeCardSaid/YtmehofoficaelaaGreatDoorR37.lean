/- Part 37 of DisputeReferee. -/
import Derived.Test.YtmehofoficaelaaGreatDoorR36
set_option linter.all false
namespace Go.Proofs.YtmehofoficaelaaGreatDoor
open Go Go.AL Classical
set_option maxRecDepth 10000
set_option maxHeartbeats 4000000
theorem abp(a b c d e:Int)(r:0<=a/\a<256)(q:0<=b/\b<256)(p:0<=c/\c<256)(o:0<=d/\d<256)(n:0<=e/\e<256):Wf T 60 [.agg [.val (.int .u8 a),.val (.int .u8 b),.val (.int .u8 c),.val (.int .u8 d),.val (.int .u8 e)]] [] (Is (.agg (wu [a,b,c,d,e]).cells)):=by have h:(wu [a,b,c,d,e]).cells = [.i (1+a % 4),.i (b % 32),.i (c % 6),.i (1+d % 3),.i (e % 9)]:=rfl;have m:fX a 4=a % 4:=jd r.1;have l:fX b 32=b % 32:=jd q.1;have rc:fX c 6=c % 6:=jd p.1;have rd:fX d 3=d % 3:=jd o.1;have k:fX e 9=e % 9:=jd n.1;have j:IntKind.i64.wrap (a % 4)=a % 4:=mO ic;have i:IntKind.i64.wrap (b % 32)=b % 32:=mO ic;have wc:IntKind.i64.wrap (c % 6)=c % 6:=mO ic;have g:IntKind.i64.wrap (d % 3)=d % 3:=mO ic;have f:IntKind.i64.wrap (e % 9)=e % 9:=mO ic;refine Yg Hu ?_;simp[Hu,m,l,rc,rd,k,j,i,wc,g,f,h];omega
structure B5 where
 a:Int
 b:Int
 c:Int
 d:Int
 e:Int
 deriving Inhabited
structure B5.ok(x:B5):Prop where
 a:0<=x.a/\x.a<256
 b:0<=x.b/\x.b<256
 c:0<=x.c/\x.c<256
 d:0<=x.d/\x.d<256
 e:0<=x.e/\x.e<256
@[irreducible] def f5(x:B5):List D:=[.val (.int .u8 x.a),.val (.int .u8 x.b),.val (.int .u8 x.c),.val (.int .u8 x.d),.val (.int .u8 x.e)]
@[simp] theorem aqs(x:B5):f5 x = [.val (.int .u8 x.a),.val (.int .u8 x.b),.val (.int .u8 x.c),.val (.int .u8 x.d),.val (.int .u8 x.e)]:=by unfold f5;rfl
instance:Fl f5 5:=⟨λ_=>by simp,λ_=>by simp[gh]⟩
@[irreducible] def tz(w:Wk):List D:=w.cells
theorem Ce(w:Wk):tz w = [.i w.kind,.i w.pos,.i w.n,.i w.tu,.i w.sC]:=by unfold tz;rfl
instance:Fl tz 5:=⟨λ_=>by rw[Ce];rfl,λ_=>by rw[Ce];simp[gh]⟩
def B5.wk(x:B5):Wk:=wu [x.a,x.b,x.c,x.d,x.e]
theorem abd(l:List B5)(hl:∀x∈l,x.ok):Wf T 18 [.sl 5 (l.map f5)] [] (Is (.sl 5 (((l.take 8).map B5.wk).map tz))):=by
 obtain⟨R,f⟩:∃R,(l.take 8).map B5.wk=R:=⟨_,rfl⟩;rw[f];refine Yg Hk ?_;simp[Hk];refine fO.e ((0,[]):Int×List Wk) (λy=>[(0,.sl 5 (l.map f5)),(3,.fy 0 y.2.length 5 0 y.2.length),(4,.i y.1)]) (λy=>[.row 149 y.2.length (cl tz y.2)]) (λy=>(0<=y.1/\y.1<=l.length/\y.1<=8)/\y.2=(l.take y.1.toNat).map B5.wk) (λy=>(l.length-y.1).toNat) ?_ ?_
 .simp
 rintro⟨i,A⟩ ⟨⟨i0,k,j⟩,b⟩;dsimp only at i0 k j b ⊢;have p:A.length=i.toNat:=by rw[b];simp;omega
 by_cases hi:i<l.length/\i<8
 .have e:=Bw (l:=l) i0 hi.1;have a:=hl _ (fZ i0 hi.1);have c:=abp (gt l i).a (gt l i).b (gt l i).c (gt l i).d (gt l i).e a.a a.b a.c a.d a.e;have g:A ++ [(gt l i).wk]=(l.take (i+1).toNat).map B5.wk:=by rw[e,List.map_append,<-b];rfl
  rw[show wu [(gt l i).a,(gt l i).b,(gt l i).c,(gt l i).d,(gt l i).e]=(gt l i).wk from rfl]at c;obtain⟨w,m⟩:∃w,(gt l i).wk=w:=⟨_,rfl⟩;rw[m]at c g;rw[show w.cells=cl tz [w]by rw[iQ];unfold tz;rfl]at c;have o:(cl tz [w]).length=5:=by rw[rO];rfl
  have d:(cl tz [w]).take 5=cl tz [w]:=af (by omega);simp[hi.1,hi.2];refine fD ?_;refine Yc (c) ?_;simp[d];refine jw d ?_;refine LJ.i (i+1,A ++ [w]) (by first|rfl|simp[d]) (by first|rfl|simp[d]) rfl rfl ?_;exact qy g
 .have e:l.take i.toNat=l.take 8:=by
   by_cases h:i=8
   .rw[h];rfl
   .rw[af (by omega),af (by omega)]
  rw[e,f]at b;subst b;clear f e
  by_cases h:i<l.length
  .have n:i=8:=by omega
   subst n;simp[h]
  .simp[h]
@[irreducible] def Dd(l:List Int):List Int:=(l++zs 32).take 32
theorem aj6(l:List Int):(Dd l).length=32:=by unfold Dd;simp
theorem Mu{l:List Int}(h:l.length=32):Dd l=l:=by unfold Dd;rw[aV (by omega),af (by omega)]
@[irreducible] def gP(x:Cw):List D:=[.i x.c.who,.i x.c.lo,.i x.c.hi,dE x.em x.c.es]++cl fU (Dd x.c.root)
theorem Cb(x:Cw):gP x = [.i x.c.who,.i x.c.lo,.i x.c.hi,dE x.em x.c.es]++cl fU (Dd x.c.root):=by unfold gP;rfl
theorem KX{x:Cw}(h:x.ok):gP x=x.cells:=by rw[Cb,Mu h.root];rfl
instance:Fl gP 36:=⟨λx=>by rw[Cb];simp[aj6],λx=>by rw[Cb];simp[gh]⟩
set_option maxHeartbeats 8000000
theorem alQ(w:Wk)(v:List fE){lo i:Int}(h:lo<=i):oi w v lo (i+1-lo).toNat=oi w v lo (i-lo).toNat ++ [By w v i]:=by rw[show(i+1-lo).toNat=(i-lo).toNat+1 by omega,oi,show lo+((i-lo).toNat:Int)=i by omega]
theorem yf(l:List Int):cl fU l=l.map λx=>.val (.int .u8 x):=by
 unfold cl
 induction l with
 | nil=>rfl
 | cons a l b=>simp[b,fU]
theorem Rg(ρ:Nat->Option Nat)(H:U)(k:Nat)(l:List Int):(cl fU l).map (fL ρ H (k+1))=cl fU l:=by rw[yf,List.map_map];rfl
theorem NT(l:List Int)(h:l.length=32)(b:D):(cl fU l ++ [b]).drop 33 = []:=by rw[List.drop_eq_nil_iff];simp[h,rO]
theorem abx(w:Wk)(E:w.ok)(who t lo hi:Int)(v:List fE)(h0:0<=lo)(h1:lo<hi)(K:hi<=v.length)(J:v.length<=64)(I:0<=who/\who<=1000) :
  Wf T 92 [.agg w.cells,.agg [.i who,.i t,.i lo,.i hi],gY v] [] (Is (if G9 w t=true then .agg (gP ⟨⟨who,lo,hi,oi w v lo (hi-lo).toNat,ju (oi w v lo (hi-lo).toNat)⟩,false⟩ ++ [.b true])else .agg ([.i 0,.i 0,.i 0,.fJ]++cl fU (zs 32) ++ [.b false]))):=by
 obtain⟨kind,pos,n,tu,sC⟩:=w;have F:=E.kind;unfold Wk.cells G9;dsimp only at F ⊢
 by_cases h:kind=1\/kind=4\/(kind=3/\n<=t)
 .rw[decide_eq_true h,if_pos rfl];have n1:¬lo<0:=by omega
  have n2:¬hi<lo:=by omega
  have g:¬(v.length:Int)<hi:=by omega
  obtain⟨W,j⟩:∃W,(⟨kind,pos,n,tu,sC⟩:Wk)=W:=⟨_,rfl⟩;have x:∀i,By W v i=if kind=4/\i=pos then(tu,sC)else gt v i:=λi=>by rw[<-j];rfl
  have q:∀m,(oi W v lo m).length=m:=RE W v lo;have G:(oi W v lo (hi-lo).toNat).length<=64:=by rw[q];omega
  have c:=N5 (v:=oi W v lo (hi-lo).toNat) (.inl rfl) G;have hl:=v8 (oi W v lo (hi-lo).toNat);rw[j,Cb,Mu hl];obtain⟨r,o⟩:∃r,ju (oi W v lo (hi-lo).toNat)=r:=⟨_,rfl⟩;rw[o]at c hl ⊢;clear o;have z:r.take 32=r:=af (by omega)
  have H:((kind=1)=True/\(kind=4)=False)\/((kind=1)=False/\(kind=4)=True)\/((kind=1)=False/\(kind=4)=False/\(kind=3)=True/\(n<=t)=True):=by simp;omega
  clear j h;rcases H with e|e|e
  all_goals
   refine Yg xR ?_;simp[xR,n1,n2,g,e];refine fO.e ((lo,[]):Int×List fE) (λy=>[(2,gY v),(3,.ptr 0 0 0),(4,.ptr 1 0 0),(6,.ptr 2 0 0),(7,.ptr 3 0 0),(8,.i y.1)]) (λy=>.row 149 0 [.i kind,.i pos,.i n,.i tu,.i sC] :: .row 209 0 [.i who,.i t,.i lo,.i hi] :: .row 206 0 (.i 0 :: .i 0 :: .i 0 :: .fJ::(cl fU (zs 32) ++ [.b false])) :: .row 72 0 (.i who :: .i lo :: .i hi::(if y.2 = []then .fJ else .fy 4 (y.2.length-1) 2 0 y.2.length)::cl fU (zs 32))::(if y.2 = []then []else [.row 86 (y.2.length-1) (cl fS y.2)])) (λy=>(lo<=y.1/\y.1<=hi)/\y.2=oi W v lo (y.1-lo).toNat) (λy=>(hi-y.1).toNat) ?_ ?_
   .simp[oi];omega
   rintro⟨i,A⟩ ⟨⟨i0,C⟩,f⟩;dsimp only at i0 C f ⊢;have l:A.length=(i-lo).toNat:=by rw[f,q]
   by_cases k:i<hi
   .have p:A ++ [By W v i]=oi W v lo (i+1-lo).toNat:=by rw[alQ W v i0,<-f]
    have s:i<v.length:=by omega
    have u:0<=i:=by omega
    have d:=x i
    by_cases a:A = []
    .subst a;rcases(show(i=pos)=True\/(i=pos)=False by simp;omega)with b|b
     all_goals
      simp[e,b]at d;simp[e,k,b,s,u];refine fD ?_;refine LJ.i (i+1,[By W v i]) (by first|rfl|simp[d,iQ]) (by first|rfl|simp[d,iQ]) rfl rfl ?_;exact⟨by omega,ic,p⟩
    .have D:0<A.length:=av.2 a;rw[if_neg a,if_neg a];rcases(show(i=pos)=True\/(i=pos)=False by simp;omega)with b|b
     all_goals
      simp[e,b]at d;simp[e,k,b,s,u];refine fD ?_;refine LJ.i (i+1,A ++ [By W v i]) (by first|rfl|simp[d,show A.length-1+1=A.length by omega]) (by first|rfl|simp[d,show A.length-1+1=A.length by omega]) rfl rfl ?_;exact⟨by omega,ic,p⟩
   .have B:i=hi:=by omega
    subst B;have a:A≠[]:=λe=>by rw[e]at l;simp at l;omega
    rw[<-f]at c;rw[<-f];rw[if_neg a,if_neg a];simp[k];refine fD ?_;refine fY.r rfl rfl c (by simp) (by simp[flat]) (by simp) ?_;simp[hl,z,Rg,NT];rfl
 .rw[decide_eq_false h,if_neg (by simp)];have n1:¬lo<0:=by omega
  have n2:¬hi<lo:=by omega
  have g:¬(v.length:Int)<hi:=by omega
  have m1:¬kind=1:=by omega
  have m2:¬kind=4:=by omega
  by_cases m3:kind=3
  .have m4:¬n<=t:=by omega
   refine Yg xR ?_;simp[xR,n1,n2,g,m1,m2,m3,m4,Rg,NT]
  .refine Yg xR ?_;simp[xR,n1,n2,g,m1,m2,m3,Rg,NT]
def rl(n:Int):Nat->Int->List fE
 | 0,_=>[]
 | k+1,a=>(a,a+(n-a+k) / (k+1))::rl n k (a+(n-a+k) / (k+1))
theorem Ts{n a:Int}{k:Nat}(h:((k+1:Nat):Int)<=n-a):1<=(n-a+k) / (k+1)/\(n-a+k) / (k+1)<=n-a-k:=by
 have b:(0:Int)<k+1:=by omega
 refine⟨?_,?_⟩
 .rw[Int.le_ediv_iff_mul_le b];omega
 .have:0<=(n-a-k-1)*(k:Int):=Int.mul_nonneg (by omega) (by omega);have e:(n-a-k+1)*((k:Int)+1)=(n-a-k-1)*k+2*k+(n-a-k+1):=by rw[Int.mul_add,Int.mul_one,show n-a-(k:Int)+1=(n-a-k-1)+2 by omega,Int.add_mul]
  have:=Int.ediv_lt_of_lt_mul b (show n-a+k<(n-a-k+1)*((k:Int)+1)by omega);omega
theorem zL{n:Int}:∀ {k:Nat} {a:Int},0<=a->(k:Int)<=n-a->∀p∈rl n k a,0<=p.1/\p.1<p.2/\p.2<=n
 | 0,_,_,_,p,hp=>by cases hp
 | k+1,a,h0,h,p,hp=>by
  have b:=Ts h;rcases aw.1 hp with rfl|hp
  .dsimp only;omega
  .exact zL (by omega) (by omega) p hp
theorem Ky{n:Int}:∀ {k:Nat} {a:Int},(rl n k a).length=k
 | 0,_=>rfl
 | k+1,_=>by rw[rl,aG,Ky]
theorem abw(n k:Int)(h0:0<n)(s:n<=4000)(k0:0<=k)(k9:k<=4000):Wf T 91 [.i n,.i k] [] (Is (.sl 2 ((rl n (min k n).toNat 0).map fS))):=by
 by_cases h:k<1
 .have e:(min k n).toNat=0:=by omega
  rw[e];refine Yg BC ?_;simp[BC,h];rfl
 .have n1:¬n<1:=by omega
  have n2:¬ 4000<n:=by omega
  obtain⟨K,i⟩:∃K:Nat,min k n=K:=⟨(min k n).toNat,by omega⟩;rw[i,bU];obtain⟨R,d⟩:∃R,rl n K 0=R:=⟨_,rfl⟩;rw[d];refine Yg BC ?_;simp[BC,h,n1,n2,i];refine fO.e (((0,K),[]):(Int×Nat)×List fE) (λy=>[(0,.i n),(5,.fy 0 y.2.length 2 0 y.2.length),(6,.i y.1.1),(7,.i y.1.2)]) (λy=>[.row 204 y.2.length (cl fS y.2)]) (λy=>((0<=y.1.1/\y.1.1<=n)/\(y.1.2:Int)<=n-y.1.1)/\y.2++rl n y.1.2 y.1.1=R) (λy=>y.1.2) ?_ ?_
  .simp[d];omega
  rintro⟨⟨a,m⟩,A⟩ ⟨⟨⟨p,o⟩,g⟩,b⟩;dsimp only at p o g b ⊢
  cases m with
  | zero=>
   have f:A=R:=by simpa[rl]using b
   subst f;clear d;simp
  | succ m=>
   have l:=Ts g
   have c:tN (n-a+(m+1)-1) (m+1)=(n-a+m) / (m+1):=by rw[show n-a+((m:Int)+1)-1=n-a+m by omega,tO (by omega) (by omega) (by omega)]
   rw[rl]at b;obtain⟨q,r⟩:∃q,(n-a+(m:Int)) / (m+1)=q:=⟨_,rfl⟩;rw[r]at l c b;have j:(A++(a,a+q)::rl n m (a+q)).length=R.length:=by rw[b]
   have t:R.length=K:=by rw[<-d,Ky]
   simp at j;simp;refine jw c ?_;refine LJ.i ((a+q,m),A ++ [(a,a+q)]) (by first|rfl|simp[c]) (by first|rfl|simp[c]) rfl rfl ?_;dsimp only;exact⟨by omega,⟨ic,by omega⟩,by simpa using b⟩
@[irreducible] noncomputable def p9(w:Wk)(who:Int)(p:fE)(v:List fE):Cw:=⟨⟨who,p.1,p.2,oi w v p.1 (p.2-p.1).toNat,ju (oi w v p.1 (p.2-p.1).toNat)⟩,false⟩
noncomputable def tR(ws:List Wk)(v P:List fE)(t:Int):Nat->List Cw
 | 0=>[]
 | n+1=>tR ws v P t n++(if G9 (gt ws n) t=true then [p9 (gt ws n) n (gt P (n % P.length)) v]else [])
theorem Q4{ws:List Wk}{v P:List fE}{t:Int}:∀n,(tR ws v P t n).length<=n
 | 0=>Nat.le_refl 0
 | n+1=>by
  have:=Q4 (ws:=ws) (v:=v) (P:=P) (t:=t) n;rw[tR,au];split
  .simp;omega
  .simp;omega
theorem abk(ws:List Wk)(v:List fE)(k t:Int)(O:∀w∈ws,w.ok)(W:ws.length<=8)(V:0<v.length)(Q:v.length<=64)(k0:0<=k)(k9:k<=4000)
  {R:List Cw} (m:(if k<1 then []else tR ws v (rl v.length (min k v.length).toNat 0) t ws.length)=R) :
  Wf T 44 [.sl 5 (ws.map tz),gY v,.i k,.i t] [] (λd H=>d = .fy 0 R.length 36 0 R.length/\H = [.row 72 R.length (cl gP R)]):=by
 have C:=abw v.length k (by omega) (by omega) k0 k9;have I:=zL (n:=v.length) (k:=(min k v.length).toNat) (a:=0) (by omega) (by omega);have L:=Ky (n:=v.length) (k:=(min k v.length).toNat) (a:=0);obtain⟨P,hP⟩:∃P,rl v.length (min k v.length).toNat 0=P:=⟨_,rfl⟩;rw[hP]at C I L m;clear hP;refine Yg Hs ?_;simp[Hs];refine Yc (C) ?_;simp;refine fD ?_;refine fO.e ((0,[]):Int×List Cw) (λy=>[(0,.sl 5 (ws.map tz)),(1,gY v),(3,.i t),(9,.sl 2 (P.map fS)),(10,.fy 0 y.2.length 36 0 y.2.length),(11,.i y.1)]) (λy=>[.row 72 y.2.length (cl gP y.2)]) (λy=>((0<=y.1/\y.1<=ws.length)/\(P = []->y.1=0))/\y.2=tR ws v P t y.1.toNat) (λy=>(ws.length-y.1).toNat) ?_ ?_
 .simp[tR]
 rintro⟨i,A⟩ ⟨⟨⟨i0,N⟩,M⟩,o⟩;dsimp only at i0 N M o ⊢
 have U:A.length<=8:=by have:=Q4 (ws:=ws) (v:=v) (P:=P) (t:=t) i.toNat;rw[o];omega
 by_cases l:P = []
 .have S:=M l;subst S l
  have s:A=R:=by rw[<-m,if_pos (by simp at L;omega)];exact o
  subst s;clear m
  by_cases hi:(0:Int)<ws.length
  all_goals
   simp[hi];exact mE
 .have G:0<P.length:=av.2 l
  by_cases hi:i<ws.length
  .have j:fX i P.length=i % P.length:=jd i0;have g:0<=i % (P.length:Int):=bJ _ (by omega);have f:i % (P.length:Int)<P.length:=bB _ (by omega);have r:=I _ (fZ g f);have c:=abx (gt ws i) (O _ (fZ i0 hi)) i t (gt P (i % P.length)).1 (gt P (i % P.length)).2 v r.1 r.2.1 r.2.2 Q ⟨i0,by omega⟩;rw[show(gt ws i).cells = [.i (gt ws i).kind,.i (gt ws i).pos,.i (gt ws i).n,.i (gt ws i).tu,.i (gt ws i).sC]from rfl]at c
   have b:tR ws v P t (i+1).toNat=A++(if G9 (gt ws i) t=true then [p9 (gt ws i) i (gt P (i % P.length)) v]else []):=by rw[show(i+1).toNat=i.toNat+1 by omega,tR,<-o,show((i.toNat:Nat):Int)=i by omega]
   by_cases z:G9 (gt ws i) t=true
   .rw[if_pos z]at c b;rw[show(⟨⟨i,(gt P (i % P.length)).1,(gt P (i % P.length)).2,oi (gt ws i) v (gt P (i % P.length)).1 ((gt P (i % P.length)).2-(gt P (i % P.length)).1).toNat,ju (oi (gt ws i) v (gt P (i % P.length)).1 ((gt P (i % P.length)).2-(gt P (i % P.length)).1).toNat)⟩,false⟩:Cw)=p9 (gt ws i) i (gt P (i % P.length)) v by unfold p9;rfl]at c;obtain⟨x,B⟩:∃x,p9 (gt ws i) i (gt P (i % P.length)) v=x:=⟨_,rfl⟩;rw[B]at c b;clear B;rw[show gP x=cl gP [x]from(iQ _).symm]at c;have q:(cl gP [x]).length=36:=by rw[rO];rfl
    have p:(cl gP [x]).take 36=cl gP [x]:=af (by omega);have K:(cl gP [x] ++ [D.b true])[36]? = some (.b true):=by rw[ai (by omega),q];rfl
    have J:(cl gP [x] ++ [D.b true]).take 37=cl gP [x] ++ [.b true]:=af (by simp[q]);simp[hi,G,j,g,f,i0,Ce];(with_reducible repeat' first|refine Xk ?_<;>try simp[j,g,f,Ce]|refine Xs ?_ ?_<;>intro h<;>(try intro X)<;>(try simp[h,j,g,f,Ce])<;>try omega|refine Xg ?_|omega);refine iF.c rfl rfl c (by simp) (by simp[Td,Ks]) ?_;simp[q,p,J,K];refine zC q p J K ?_;refine LJ.i (i+1,A ++ [x]) (by first|rfl|simp[p]) (by first|rfl|simp[p]) rfl rfl ?_;exact⟨by dsimp only;omega,⟨ic,λe=>absurd e l⟩,b.symm⟩
   .rw[if_neg z]at c b;rw[ax]at b;have u:(cl fU (zs 32)).length=32:=by simp
    have E:(cl fU (zs 32) ++ [D.b false])[32]? = some (.b false):=by rw[ai (by omega),u];rfl
    have F:(cl fU (zs 32) ++ [D.b false]).take 33=cl fU (zs 32) ++ [.b false]:=af (by simp[u]);simp[hi,G,j,g,f,i0,Ce];refine pe j g f ?_;refine iF.c rfl rfl c (by simp) (by simp[Td,Ks]) ?_;simp[E,F];refine ku E F ?_;refine LJ.e (i+1,A) ?_;exact⟨by dsimp only;omega,⟨ic,λe=>absurd e l⟩,b.symm⟩
  .have s:A=R:=by rw[<-m,if_neg (by omega),o,show i.toNat=ws.length by omega]
   subst s;clear m;simp[hi]
structure Hg(x:Cw):Prop where
 ok:x.ok
 b:∀r∈x.c.es,r.2<=4000
def Ni(n:Nat)(sd:Bool)(L:List Cw):Prop:=L.length<=10/\∀x∈L,Hg x/\(sd=true->x.em=false/\0<=x.c.lo/\x.c.lo<x.c.hi/\x.c.hi<=n/\(x.c.es.length:Int)=x.c.hi-x.c.lo/\x.c.root=ju x.c.es)
theorem Y5{w:Wk}{v:List fE}{lo:Int}{r:fE}:∀ {n:Nat},r∈oi w v lo n->0<=lo->lo+n<=v.length->r∈v\/r=(w.tu,w.sC)
 | 0,h,_,_=>by cases h
 | n+1,h,h0,h1=>by
  rcases List.mem_append.1 h with h|h
  .exact Y5 h h0 (by omega)
  .rw[List.mem_singleton.1 h,By];split
   .exact .inr rfl
   .exact .inl (fZ (by omega) (by omega))
theorem alD{w:Wk}(b:w.ok){who:Int}{p:fE}{v:List fE}(a:0<=p.1/\p.1<p.2/\p.2<=v.length)(e:v.length<=64)(c:∀r∈v,r.2<=4000) :
  Hg (p9 w who p v)/\((p9 w who p v).em=false/\0<=(p9 w who p v).c.lo/\(p9 w who p v).c.lo<(p9 w who p v).c.hi/\(p9 w who p v).c.hi<=v.length/\((p9 w who p v).c.es.length:Int)=(p9 w who p v).c.hi-(p9 w who p v).c.lo/\(p9 w who p v).c.root=ju (p9 w who p v).c.es):=by
 have hl:=RE w v p.1 (p.2-p.1).toNat;unfold p9;refine⟨⟨⟨(λh=>by cases h),?_,v8 _,?_,?_⟩,λr d=>?_⟩,rfl,?_,?_,?_,?_,rfl⟩
 .dsimp only;omega
 .dsimp only;omega
 .dsimp only;omega
 .rcases Y5 d a.1 (by omega)with h|rfl
  .exact c r h
  .have:=b.sC;dsimp only;omega
 .exact a.1
 .exact a.2.1
 .exact a.2.2
 .dsimp only;omega
theorem X6{ws:List Wk}{v P:List fE}{t:Int}(c:∀w∈ws,w.ok)(hP:∀p∈P,0<=p.1/\p.1<p.2/\p.2<=v.length)(b:0<P.length)(e:v.length<=64)(d:∀r∈v,r.2<=4000) :
  ∀n,n<=ws.length->∀x∈tR ws v P t n,Hg x/\(true=true->x.em=false/\0<=x.c.lo/\x.c.lo<x.c.hi/\x.c.hi<=v.length/\(x.c.es.length:Int)=x.c.hi-x.c.lo/\x.c.root=ju x.c.es)
 | 0,_,x,a=>by cases a
 | n+1,hn,x,a=>by
  rcases List.mem_append.1 a with a|a
  .exact X6 c hP b e d n (by omega) x a
  .split at a
   .rw[List.mem_singleton.1 a];have:=alD (who:=n) (c (gt ws n) (fZ (by omega) (by omega))) (hP (gt P ((n:Int) % P.length)) (fZ (bJ _ (by omega)) (bB _ (by omega)))) e d;exact⟨this.1,λ_=>this.2⟩
   .cases a
def On(n:Nat)(sd:Bool):D->U->Prop:=λd H=>∃L g,d = .fy 0 g 36 0 L.length/\H = [.row 72 g (cl gP L)]/\Ni n sd L
theorem fY.on{f:FuncId}{args:List D}{dst:Option Nat}{s:St}{K:St->Prop}{fn:iP}{n:Nat}{sd:Bool}(c:T.fn f=some fn)(b:fn.full=false)(h:Wf T f args [] (On n sd))
  (a:gh args=true) (k:∀L g,Ni n sd L->K { s with env:=put s.env dst (.fy s.H.length g 36 0 L.length),H:=s.H ++ [.row 72 g (cl gP L)] }):fY T f args dst s K .mk:=by
 refine fY.is c b (K0:=On n sd) ?_ ?_
 .have i:args.map (fL (λ_=>none) s.H 40)=args:=by
   conv=>rhs;rw[<-aT args]
   exact ak λd e=>pF (lS a d e)
  rw[i];exact h
 .rintro d' j ⟨L,g,rfl,rfl,hP⟩;refine⟨_,?_,k L g hP⟩;unfold after;rw[if_pos a,if_pos (by simp)];simp
theorem abr(v:List fE)(l:List B5)(k t a b c:Int)(hl:∀x∈l,x.ok)(X:0<v.length)(L:v.length<=64)(P:∀r∈v,r.2<=4000)(k0:0<=k)(k9:k<=4000)
  (S:0<=a/\a<256) (Q:0<=b/\b<256) (Z:0<=c/\c<256) :
  Wf T 73 [gY v,.sl 5 (l.map f5),.i k,.i t,.agg [.val (.int .u8 a),.val (.int .u8 b),.val (.int .u8 c)]] [] (On v.length (decide (a % 8<6))):=by
 have C:=abd l hl
 have I:∀w∈(l.take 8).map B5.wk,w.ok:=λw O=>by obtain⟨x,_,rfl⟩:=aq.1 O;exact alE _
 have F:((l.take 8).map B5.wk).length<=8:=by simp;omega
 obtain⟨ws,N⟩:∃ws,(l.take 8).map B5.wk=ws:=⟨_,rfl⟩;rw[N]at C I F
 have D:∀x∈(if k<1 then []else tR ws v (rl v.length (min k v.length).toNat 0) t ws.length),Hg x/\(true=true->x.em=false/\0<=x.c.lo/\x.c.lo<x.c.hi/\x.c.hi<=v.length/\(x.c.es.length:Int)=x.c.hi-x.c.lo/\x.c.root=ju x.c.es):=by
  intro x d;split at d
  .cases d
  .exact X6 I (zL (by omega) (by omega)) (by rw[Ky];omega) L P _ (Nat.le_refl _) x d
 have W:(if k<1 then []else tR ws v (rl v.length (min k v.length).toNat 0) t ws.length).length<=8:=by
  split
  .simp
  .exact Nat.le_trans (Q4 _) F
 obtain⟨R,G⟩:∃R,(if k<1 then []else tR ws v (rl v.length (min k v.length).toNat 0) t ws.length)=R:=⟨_,rfl⟩;have c2:=abk ws v k t I F X L k0 k9 G;rw[G]at D W;clear G N;have g:fX a 8=a % 8:=jd S.1
 by_cases K:R = []
 .subst K;refine Yg vg ?_;simp[vg];refine Yc (C) ?_;simp;refine fD ?_;refine Go.AL.fY.n rfl rfl c2 (by simp) (by simp) ?_;simp;exact⟨[],0,rfl,by simp,by simp[Ni]⟩
 have e:0<R.length:=av.2 K;have m:0<=b % (R.length:Int):=bJ _ (by omega);have j:b % (R.length:Int)<R.length:=bB _ (by omega);have o:fX b R.length=b % R.length:=jd Q.1;have n:IntKind.i64.wrap b=b:=mO ic;have wc:IntKind.i64.wrap c=c:=mO ic;have d:=D _ (fZ m j);obtain⟨x,M⟩:∃x,gt R (b % R.length)=x:=⟨_,rfl⟩;rw[M]at d;have V:=KX d.1.ok;have H:=d.1.ok.root;obtain⟨⟨who,lo,hi,es,root⟩,em⟩:=x;dsimp only at H
 obtain⟨z,rs,rfl⟩:∃z rs,root=z::rs:=by
  cases root with
  | nil=>cases H
  | cons z rs=>exact⟨z,rs,rfl⟩
 have f:rs.length=31:=by simpa using H
 have s:rs.take 31=rs:=af (by omega);have Y:(cl fU rs).take 31=cl fU rs:=af (by simp[f]);have q:gP (gt R (b % R.length)) = [.i who,.i lo,.i hi,dE em es,.val (.int .u8 z)]++cl fU rs:=by rw[M,V];simp[Cw.cells,mi]
 have J:∀u p E,-1000000<=u/\u<=1000000->-1000000<=p/\p<=1000000->On v.length false (.fy 0 (R.length+1) 36 0 (R.length+1)) [.row 72 (R.length+1) (cl gP R ++ .i who :: .i u :: .i p::dE em es :: .val (.int .u8 E)::cl fU rs)]:=λu p E q1 q2=>by
  have fG:Cw.ok ⟨⟨who,u,p,es,E::rs⟩,em⟩:=⟨d.1.ok.em,d.1.ok.es,by simp[f],q1,q2⟩;refine⟨R ++ [⟨⟨who,u,p,es,E::rs⟩,em⟩],R.length+1,by simp,?_,by simp;omega,λy i=>⟨?_,λh=>by cases h⟩⟩
  .rw[<-ph,KX fG];simp[Cw.cells,mi]
  .rcases List.mem_append.1 i with i|i
   .exact(D y i).1
   .rw[List.mem_singleton.1 i];exact⟨fG,d.1.b⟩
 have q1:=d.1.ok.lo;have q2:=d.1.ok.hi;have q3:=(d.2 rfl).2;dsimp only at q1 q2 q3
 by_cases A:a % 8=7
 .refine Yg vg ?_;simp[vg];refine Yc (C) ?_;simp;refine fD ?_;refine Go.AL.fY.n rfl rfl c2 (by simp) (by simp) ?_;simp[e,g,A,n,o,m,j,q,f,s];(with_reducible repeat' first|refine Xk ?_<;>try simp[e,g,A,n,o,m,j,q,f,s]|refine Xs ?_ ?_<;>intro h<;>(try intro U)<;>(try simp[h,e,g,A,n,o,m,j,q,f,s])<;>try omega|refine Xg ?_|omega);exact J _ _ _ q1 q2
 .by_cases B:a % 8=6
  .refine Yg vg ?_;simp[vg];refine Yc (C) ?_;simp;refine fD ?_;refine Go.AL.fY.n rfl rfl c2 (by simp) (by simp) ?_;simp[e,g,B,n,wc,o,m,j,q,f,s];(with_reducible repeat' first|refine Xk ?_<;>try simp[e,g,B,n,wc,o,m,j,q,f,s]|refine Xs ?_ ?_<;>intro h<;>(try intro U)<;>(try simp[h,e,g,B,n,wc,o,m,j,q,f,s])<;>try omega|refine Xg ?_|omega);exact J _ _ _ (by omega) (by omega)
  .refine Yg vg ?_;simp[vg];refine Yc (C) ?_;simp;refine fD ?_;refine Go.AL.fY.n rfl rfl c2 (by simp) (by simp) ?_;simp[e,g,B,A];refine zC e g B A ?_;exact⟨R,R.length,rfl,rfl,by omega,λy i=>⟨(D y i).1,λ_=>(D y i).2 rfl⟩⟩
set_option maxHeartbeats 4000000
def iY(n:Int)(c:gp):Bool:=snd c&&decide (c.hi<=n)
noncomputable def AI(V:List fE)(c:gp):Bool:=iY V.length c&&decide (∀i:Int,c.lo<=i->i<c.hi->iW c i=gt V i)
theorem Rv{c:gp}(h:snd c=true):0<=c.lo/\c.lo<=c.hi/\(c.es.length:Int)=c.hi-c.lo:=by unfold snd at h;have:=of_decide_eq_true h;exact⟨this.1,this.2.1,this.2.2.1⟩
structure qc(l:List Int)(d:D):Prop where
 cl:closed d=true
 len:∀H,mM .slice d H=some (.i l.length)
 idx:∀(n:Int) (k:IntKind) (P:D->Prop),oA (ma 1 d (.val (.int k n))) P .mk=((0<=n/\n<l.length)/\P (.fV [.i (gt l n)]))
theorem qc.I(l:List Int):qc l (dI l):=⟨by simp,λ_=>by simp,λn k P=>by simp⟩
theorem qc.e:qc [] .fJ:=⟨rfl,λ_=>by simp,λn k P=>by
 have:ma 1 .fJ (.val (.int k n))=none:=rfl;rw[this];simp
 omega⟩
theorem qc.N(l:List Int):qc l (dN 1 f1 l):=by
 cases l with
 | nil=>exact qc.e
 | cons a r=>exact qc.I (a::r)
theorem abF{a b:List Int}{x y:D}(l:qc a x)(k:qc b y)(h:a.length=b.length)(r:a.length<=4000000000):Wf T 132 [x,y] [] (Is (.b (decide (a=b)))):=by
 have c:=l.len;have g:=k.len;have f:=l.idx;have d:=k.idx;have o:=l.cl;have n:=k.cl;refine Yg HN ?_;simp[HN];refine fO.e (0:Int) (λi=>[(0,x),(1,y),(5,.i i)]) (λi=>[]) (λi=>(0<=i/\i<=a.length)/\∀j:Int,0<=j->j<i->gt a j=gt b j) (λi=>(a.length-i).toNat) ?_ ?_
 .exact⟨by simp,λj j0 j1=>by omega⟩
 rintro i ⟨⟨i0,q⟩,m⟩;dsimp only at i0 q m ⊢
 by_cases hi:i<a.length
 .simp[c,g,f,d,o,n,hi];(with_reducible repeat' first|refine Xk ?_<;>try simp[c,g,f,d,o,n]|refine Xs ?_ ?_<;>intro h<;>(try intro s)<;>(try simp[h,c,g,f,d,o,n])<;>try omega|refine Xg ?_|omega)
  .refine LJ.e (i+1) ?_;refine⟨by omega,ic,λj j0 j1=>?_⟩
   by_cases e:j=i
   .rw[e];assumption
   .exact m j j0 (by omega)
  .rintro rfl;exact absurd rfl ‹_›
 .have p:i=a.length:=by omega
  subst p;simp[c];refine bQ h λj j0 j1=>?_;have:=m j (by omega) (by omega);rw[jc (by omega) (by omega),jc (by omega) (by omega)]at this;exact this
theorem abt{a b:List Int}{x y:D}(f:qc a x)(d:qc b y)(j:a.length<=4000000000):Wf T 74 [x,y] [] (Is (.b (decide (a=b)))):=by
 have i:=f.len;have g:=d.len;have n:=f.cl;have m:=d.cl
 by_cases h:a.length=b.length
 .have c:=abF f d h j;refine Yg BB ?_;simp[BB,i,g,h];refine fY.c rfl rfl c (by simp[n,m]) (by simp) ?_;simp
 .have l:¬a=b:=λe=>h (by rw[e]);have k:¬(a.length:Int)=b.length:=by omega
  refine Yg BB ?_;simp[BB,i,g,h,k,l]
structure RSl(l:List fE)(d:D):Prop where
 cl:closed d=true
 len:∀H,mM .slice d H=some (.i l.length)
 idx:∀(n:Int) (k:IntKind) (P:D->Prop),oA (ma 2 d (.val (.int k n))) P .mk=((0<=n/\n<l.length)/\P (.fV [.i (gt l n).1,.i (gt l n).2]))
theorem abh{a b:List Int}{x y:D}(j:qc a x)(i:qc b y)(k:a.length<=4000000000)(p q e f:Int):Wf T 29 [.agg [.i p,x,.i e],.agg [.i q,y,.i f]] [] (Is (.b (decide (p=q/\a=b/\e=f)))):=by
 have g:=j.cl;have d:=i.cl;have c:=abt j i k
 by_cases h1:p=q
 .by_cases h:a=b
  .rw[decide_eq_true h]at c;refine Yg xM ?_;simp[xM,h1,g,d];refine fY.c rfl rfl c (by simp[g,d]) (by simp) ?_;simp[h]
  .rw[decide_eq_false h]at c;refine Yg xM ?_;simp[xM,h1,g,d];refine fY.c rfl rfl c (by simp[g,d]) (by simp) ?_;simp[h]
 .refine Yg xM ?_;simp[xM,h1,g,d]
set_option maxHeartbeats 8000000
def uX(m:Int)(r:fE):Int:=if r.1≠2/\(m<0\/r.2<m)then r.2 else m
def vX(l:List fE):Int:=l.foldl uX (-1)
theorem aeP(l:List fE)(r:fE):vX (l ++ [r])=uX (vX l) r:=by unfold vX;rw[List.foldl_append];rfl
theorem dd(a b:Int)(q:fE):(!decide (a=q.1) || !decide (b=q.2)) = !decide ((a,b)=q):=by obtain⟨x,y⟩:=q;rw[<-Bool.not_and,<-du];congr 1;exact decide_eq_decide.2 (by simp)
def Cw.full(x:Cw):Prop:=x.ok/\(x.c.lo<x.c.hi->(x.c.es.length:Int)=x.c.hi-x.c.lo)
theorem Cw.acL{x:Cw}(h:x.full){i:Int}(a:ie x.c i=true):x.em=false/\x.c.lo<=i/\i-x.c.lo<x.c.es.length:=by
 unfold ie at a;rw[decide_eq_true_iff]at a;have b:=h.2 (by omega);refine⟨?_,a.1,by omega⟩
 cases e:x.em with
 | false=>rfl
 | true=>
  have:=h.1.em e;rw[this]at b;simp at b;omega
def cs(L:List Cw):List gp:=L.map Cw.c
def jI(p:gp->Bool):List gp->Nat->List Int
 | _,0=>[]
 | cl,n+1=>if p (gt cl (n:Int))=true then jI p cl n ++ [(n:Int)]else jI p cl n
end Go.Proofs.YtmehofoficaelaaGreatDoor
namespace Go.Proofs.YtmehofoficaelaaGreatDoor
open Go Go.AL Classical
def idx(p:gp->Bool)(cl:List gp):List Int:=(upto cl.length).filter λk=>p (gt cl k)
theorem C4{p:gp->Bool}{cl:List gp}{k:Int}:k∈idx p cl↔(0<=k/\k<cl.length)/\p (gt cl k)=true:=by unfold idx;rw[aO,jj]
theorem AV{p:gp->Bool}{cl:List gp}:idx p cl≠[]↔∃c∈cl,p c=true:=by
 constructor
 .intro h;obtain⟨k,a⟩:=eP _ h;rw[C4]at a;exact⟨_,fZ a.1.1 a.1.2,a.2⟩
 .rintro⟨c,d,b⟩ h;obtain⟨k,k0,k1,rfl⟩:=xw.1 d;have:k∈idx p cl:=C4.2 ⟨⟨k0,k1⟩,b⟩;rw[h]at this;cases this
inductive Jd where
 | v (a:Int) (l:List Int)
 | none
 | uj
 deriving DecidableEq
def zD(cl:List gp)(a i:Int):Int:=if lk (sd cl i)=true/\(a<0\/lL (sd cl i)<lL (sd cl a))then i else a
def kl(cl:List gp)(n:Nat):Int:=(upto n).foldl (zD cl) (-1)
noncomputable def lX(A:ny)(n:Nat)(ad:gp->Bool)(cl:List gp):Jd:=
 if idx (λc => !ad c) cl≠[]then .v (-1) (idx (λc => !ad c) cl)
 else if∃i∈upto n,sd cl i = []then .uj
 else match (upto n).find? λi=>decide (idx (λc=>ie c i && !kM (iW c i)) cl≠[])with
  | some i=>.v i (idx (λc=>ie c i && !kM (iW c i)) cl)
  | Option.none=>if kl cl n<0 then .none else .v (kl cl n) (idx (oQ A cl (kl cl n)) cl)
theorem G7(n:Nat):upto (n+1)=upto n ++ [(n:Int)]:=by simp[upto,List.range_succ]
theorem BV(cl:List gp):∀n:Nat,(kl cl n = -1/\∀j:Int,0<=j->j<n->lk (sd cl j)=false) \/
  ((0<=kl cl n/\kl cl n<n)/\lk (sd cl (kl cl n))=true/\∀j:Int,0<=j->j<n->lk (sd cl j)=true->lL (sd cl (kl cl n))<=lL (sd cl j))
 | 0=>.inl ⟨rfl,λj h0 h1=>by omega⟩
 | n+1=>by
  have e:kl cl (n+1)=zD cl (kl cl n) n:=by unfold kl;rw[G7,List.foldl_append];rfl
  rw[e];generalize c:kl cl n=a;have b:=BV cl n;rw[c]at b;unfold zD
  by_cases d:lk (sd cl n)=true
  .grind
  .grind
def J2(V:List fE)(ad:gp->Bool)(c:gp):Prop:=ad c=true/\∀i,ie c i=true->iW c i=gt V i
section
variable{A:ny}{V:List fE}{cl:List gp}{n:Nat}{ad:gp->Bool}
theorem ael(gq:∀i:Int,0<=i->i<n->∀k∈gt A.nx i,0<=k/\k<n)(hV:∀i:Int,0<=i->i<n->pd A V i)(pT:∀i:Int,0<=i->i<n->kM (gt V i)=true)
  (w:∀i:Int,0<=i->i<n->∃c∈cl,J2 V ad c/\ie c i=true) (y:∀c,ad c=true->∀i,ie c i=true->0<=i/\i<n) {a:Int} {l:List Int} (h:lX A n ad cl = .v a l) :
  l≠[]/\(-1<=a/\a<n)/\∀k∈l,¬J2 V ad (gt cl k):=by
 unfold lX at h;split at h
 .rename_i v;cases h;exact⟨v,by omega,λk f g=>by have:=(C4.1 f).2;rw[g.1]at this;cases this⟩
 rename_i o;split at h
 .cases h
 have o:∀c∈cl,ad c=true:=λc u=>by
  cases e:ad c with
  | true=>rfl
  | false=>exact absurd (AV.2 ⟨c,u,by simp[e]⟩) o
 split at h
 .rename_i i hi;cases h;have h1:=List.find?_some hi;have b:=eQ hi;rw[jj]at b;refine⟨by simpa using h1,by omega,λk f g=>?_⟩;have d:=(C4.1 f).2;simp only[Bool.and_eq_true,eM]at d;rw[g.2 _ d.1,pT _ b.1 b.2]at d;cases d.2
 .rename_i m;split at h
  .cases h
  rename_i z;cases h
  have s:∀i:Int,0<=i->i<n->∀r∈sd cl i,kM r=true:=λi i0 j r t=>by
   rw[eE]at m;have:=m i (jj.2 ⟨i0,j⟩);obtain⟨c,h1,b,rfl⟩:=rA.1 t
   cases e:kM (iW c i)with
   | true=>rfl
   | false=>exact absurd (AV (p:=λc=>ie c i && !kM (iW c i)) |>.2 ⟨c,h1,by simp[b,e]⟩) (by simpa using this)
  rcases BV cl n with⟨e,_⟩|⟨h1,b,d⟩
  .omega
  refine⟨AV.2 (alO (s _ h1.1 h1.2) b),by omega,λk f g=>?_⟩;have q:=C4.1 f;have x:ie (gt cl k) (kl cl n)=true:=by have:=q.2;unfold oQ at this;rw[Bool.and_eq_true]at this;exact this.1
  have:=alN (cl:=cl) (N:=(n:Int)) gq hV (λi i0 j=>by
   obtain⟨c,q1,q2,q3⟩:=w i i0 j
   exact rA.2 ⟨c,q1,q3,q2.2 i q3⟩) h1.1 h1.2 d (c:=gt cl k) (g.2 _ x)
  rw[q.2]at this;cases this
theorem aej(h:lX A n ad cl = .none):(∀c∈cl,ad c=true)/\∀i:Int,0<=i->i<n->sd cl i≠[]/\lk (sd cl i)=false:=by
 unfold lX at h;split at h
 .cases h
 rename_i d;split at h
 .cases h
 rename_i a
 refine⟨λc a=>by
  cases e:ad c with
  | true=>rfl
  | false=>exact absurd (AV.2 ⟨c,a,(by show(!ad c)=true;rw[e];rfl)⟩) d,?_⟩
 split at h
 .cases h
 split at h
 .rename_i f;rcases BV cl n with⟨_,e⟩|⟨h1,_,_⟩
  .exact λi i0 b=>⟨λh0=>a ⟨i,jj.2 ⟨i0,b⟩,h0⟩,e i i0 b⟩
  .omega
 .cases h
theorem aeg(h:lX A n ad cl = .uj):∃i:Int,(0<=i/\i<n)/\sd cl i = []:=by
 unfold lX at h;split at h
 .cases h
 split at h
 .rename_i a;obtain⟨i,hi,e⟩:=a;exact⟨i,jj.1 hi,e⟩
 split at h
 .cases h
 split at h<;>cases h
end
end Go.Proofs.YtmehofoficaelaaGreatDoor
namespace Go.Proofs.YtmehofoficaelaaGreatDoor
open Go Go.AL Classical
@[simp] theorem as4(o:Int):jT [] o = []:=rfl
@[simp] theorem asZ:uY [] = -1:=rfl
@[simp] theorem asY:C3 [] = -1:=rfl
theorem ae2(l:List Int)(x:Int):uY (l ++ [x])=if l = []then x else min (uY l) x:=by
 cases l with
 | nil=>rfl
 | cons a r=>simp[uY,List.foldl_append]
theorem aeO{l:List fE}(h:∀r∈l,r.1≠2->0<=r.2):vX l=lL l:=by
 suffices ∀(l m:List fE),(∀r∈m++l,r.1≠2->0<=r.2)->l.foldl uX (lL m)=lL (m++l)from by have:=this l [] (by simpa using h);rw[bG]at this;exact this
 intro l
 induction l with
 | nil=>intro m _;simp
 | cons a r i=>
  intro m c;rw[bW]
  have e:uX (lL m) a=lL (m ++ [a]):=by
   unfold uX;have g:=c a (by simp);unfold lL;rw[eC,List.map_append]
   by_cases d:a.1=2
   .grind
   .have g:=g d;have hs:((([a]:List fE).filter λr=>decide (r.1≠2)).map λr=>r.2) = [a.2]:=by simp[d]
    rw[hs,ae2]
    by_cases b:((m.filter λr=>decide (r.1≠2)).map λr=>r.2) = []
    .rw[if_pos b,b];rw[if_pos ⟨d,.inl (by decide)⟩]
    .rw[if_neg b];have j:=C5 b;obtain⟨q,f,n⟩:=aq.1 j;rw[aO]at f;have k:=c q (by simp[f.1]) (by simpa using f.2)
     by_cases hl:a.2<uY ((m.filter λr=>decide (r.1≠2)).map λr=>r.2)
     .grind
     .grind
  rw[e,i (m ++ [a]) (by simpa using c)];simp
def wN(cl:List gp)(n j:Int):fE:=if lk (sd cl j)=false/\(pM (sd cl j)).2<n then pM (sd cl j)else(2,0)
theorem WX(A:ny)(cl:List gp)(i n:Int):A4 A cl i n=(gt A.nx i).map (wN cl n):=rfl
theorem V6{p q:gp->Bool}{cl:List gp}:∀ {n:Nat},n<=cl.length->(∀c∈cl,p c=q c)->jI p cl n=jI q cl n
 | 0,_,_=>rfl
 | n+1,h,hp=>by rw[jI,jI,V6 (by omega) hp,hp _ (fZ (by omega) (by omega))]
theorem tJ(p:gp->Bool)(cl:List gp):jI p cl cl.length=idx p cl:=by
 unfold idx
 suffices ∀n:Nat,jI p cl n=(upto n).filter λk=>p (gt cl k)from this _
 intro n
 induction n with
 | zero=>rfl
 | succ n a=>
  rw[jI,a,G7,eC]
  by_cases h:p (gt cl (n:Int))=true
  .grind
  .grind
end Go.Proofs.YtmehofoficaelaaGreatDoor
namespace Go.Proofs.YtmehofoficaelaaGreatDoor
open Go Go.AL Classical
theorem Ul{p:Int->Bool}:∀ {n:Nat} {i:Int},0<=i->i<n->p i=true->(∀j:Int,0<=j->j<i->p j=false)->(upto n).find? p=some i
 | 0,i,h0,h1,_,_=>by omega
 | n+1,i,h0,h1,hp,hn=>by
  rw[G7,List.find?_append]
  by_cases e:i=n
  .have:(upto n).find? p=none:=eE.2 λj a=>by rw[jj]at a;rw[hn j a.1 (by omega)];simp
   rw[this,e];rw[e]at hp;simp[hp]
  .rw[Ul h0 (by omega) hp hn];rfl
theorem acC{p:Int->Bool}{n:Nat}(h:∀j:Int,0<=j->j<n->p j=false):(upto n).find? p=none:=
 eE.2 λj a=>by rw[jj]at a;rw[h j a.1 a.2];simp
section
variable{A:ny}{n:Nat}{ad:gp->Bool}{cl:List gp}
def imp(cl:List gp)(i:Int):List Int:=jI (λc=>ie c i && !kM (iW c i)) cl cl.length
theorem aed(h:jI (λc => !ad c) cl cl.length≠[]):lX A n ad cl = .v (-1) (jI (λc => !ad c) cl cl.length):=by unfold lX;rw[tJ]at h ⊢;rw[if_pos h]
theorem aeh(h:jI (λc => !ad c) cl cl.length = []){i:Int}(i0:0<=i)(a:i<n)(hi:sd cl i = []):lX A n ad cl = .uj:=by unfold lX;rw[tJ]at h;rw[if_neg (λq=>q h),if_pos ⟨i,jj.2 ⟨i0,a⟩,hi⟩]
theorem aei(h:jI (λc => !ad c) cl cl.length = [])(hs:∀j:Int,0<=j->j<n->sd cl j≠[]){i:Int}(i0:0<=i)(b:i<n)(hi:imp cl i≠[])(a:∀j:Int,0<=j->j<i->imp cl j = []):lX A n ad cl = .v i (imp cl i):=by
 unfold lX;rw[tJ]at h;rw[if_neg (λq=>q h),if_neg]
 .rw[Ul i0 b]
  .show Jd.v i _=_;unfold imp;rw[tJ]
  .rw[decide_eq_true_iff,<-tJ];exact hi
  .intro j j0 j1;rw[decide_eq_false_iff_not,<-tJ];exactλq=>q (a j j0 j1)
 .rintro⟨j,a,e⟩;rw[jj]at a;exact hs j a.1 a.2 e
theorem aee(h:jI (λc => !ad c) cl cl.length = [])(hs:∀j:Int,0<=j->j<n->sd cl j≠[])(a:∀j:Int,0<=j->j<n->imp cl j = []):lX A n ad cl=if kl cl n<0 then .none else .v (kl cl n) (jI (oQ A cl (kl cl n)) cl cl.length):=by
 unfold lX;rw[tJ]at h;rw[if_neg (λq=>q h),if_neg]
 .rw[acC λj j0 j1=>by
   rw[decide_eq_false_iff_not,<-tJ]
   exactλq=>q (a j j0 j1)]
  rw[tJ]
 .rintro⟨j,a,e⟩;rw[jj]at a;exact hs j a.1 a.2 e
theorem imp_nil{i:Int}(h:imp cl i = []):∀r∈sd cl i,kM r=true:=λr a=>by
 obtain⟨c,b,h1,rfl⟩:=rA.1 a;unfold imp at h;rw[tJ]at h
 cases e:kM (iW c i)with
 | true=>rfl
 | false=>exact absurd h (AV.2 ⟨c,b,by simp[h1,e]⟩)
end
end Go.Proofs.YtmehofoficaelaaGreatDoor
namespace Go.Proofs.YtmehofoficaelaaGreatDoor
open Go Go.AL Classical
abbrev jK:=List (fE×List Int)
def nf(r:fE)(k:Int):jK->jK
 | []=>[(r,[k])]
 | (q,x)::t=>if q=r then(q,x ++ [k])::t else(q,x)::nf r k t
def oy(p:gp->Bool)(s:gp->fE)(cl:List gp):Nat->jK
 | 0=>[]
 | n+1=>if p (gt cl (n:Int))=true then nf (s (gt cl (n:Int))) n (oy p s cl n)else oy p s cl n
theorem yY{p:gp->Bool}{cl:List gp}{k:Int}:∀ {n:Nat},k∈jI p cl n↔(0<=k/\k<n)/\p (gt cl k)=true
 | 0=>by simp[jI];omega
 | n+1=>by
  rw[jI]
  by_cases h:p (gt cl (n:Int))=true
  .rw[if_pos h,List.mem_append,yY,List.mem_singleton];constructor
   .grind
   .grind
  .rw[if_neg h,yY];constructor
   .grind
   .grind
theorem AX(p:gp->Bool)(cl:List gp):∀n:Nat,(jI p cl n).Pairwise (· < ·)
 | 0=>.nil
 | n+1=>by
  rw[jI]
  by_cases h:p (gt cl (n:Int))=true
  .rw[if_pos h,bI]
   exact⟨AX p cl n,List.pairwise_singleton _ _,λa d b c=>by
    rw[List.mem_singleton]at c;have:=(yY.1 d).1
    omega⟩
  .rw[if_neg h];exact AX p cl n
def s5(r:fE):jK->List Int
 | []=>[]
 | (q,x)::t=>if q=r then x else s5 r t
theorem Qw{r q:fE}{k:Int}:∀ {G:jK},q∈(nf r k G).map (·.1)↔q=r\/q∈G.map (·.1)
 | []=>by simp[nf]
 | (a,x)::t=>by
  rw[nf]
  by_cases h:a=r
  .grind
  .rw[if_neg h,List.map_cons,aw,Qw,List.map_cons,aw];constructor
   .grind
   .grind
theorem Uz{r:fE}{k:Int}:∀ {G:jK},(G.map (·.1)).Nodup->((nf r k G).map (·.1)).Nodup
 | [],_=>by simp[nf]
 | (a,x)::t,h=>by
  rw[List.map_cons,cY]at h;rw[nf]
  by_cases e:a=r
  .grind
  .rw[if_neg e,List.map_cons,cY];refine⟨λb=>?_,Uz h.2⟩;rcases Qw.1 b with h1|h1
   .exact e h1
   .exact h.1 h1
theorem WG{r q:fE}{k:Int}:∀ {G:jK},s5 q (nf r k G)=if q=r then s5 q G ++ [k]else s5 q G
 | []=>by
  by_cases h:q=r
  .subst h;simp[nf,s5]
  .rw[if_neg h];simp[nf,s5,cF h]
 | (a,x)::t=>by
  rw[nf]
  by_cases e:a=r
  .subst e;rw[if_pos rfl]
   by_cases h:q=a
   .subst h;simp[s5]
   .rw[if_neg h];simp[s5,cF h]
  .rw[if_neg e,s5,s5,WG]
   by_cases h:a=q
   .grind
   .grind
theorem WH{q:fE}{x:List Int}:∀ {G:jK},(G.map (·.1)).Nodup->((q,x)∈G↔q∈G.map (·.1)/\x=s5 q G)
 | [],_=>by simp
 | (a,y)::t,h=>by
  rw[List.map_cons,cY]at h;rw[aw,WH h.2,List.map_cons,aw,s5]
  by_cases e:a=q
  .grind
  .grind
section
variable{p:gp->Bool}{s:gp->fE}{cl:List gp}
theorem EO:∀n:Nat,((oy p s cl n).map (·.1)).Nodup
 | 0=>.nil
 | n+1=>by
  rw[oy];split
  .exact Uz (EO n)
  .exact EO n
theorem UE{q:fE}:∀n:Nat,s5 q (oy p s cl n)=jI (λc=>p c&&decide (s c=q)) cl n
 | 0=>rfl
 | n+1=>by
  rw[oy,jI,<-UE n]
  by_cases h:p (gt cl (n:Int))=true
  .rw[if_pos h,WG]
   by_cases e:q=s (gt cl (n:Int))
   .grind
   .grind
  .grind
theorem Lb{q:fE}:∀ {n:Nat},q∈(oy p s cl n).map (·.1)↔∃k:Int,(0<=k/\k<n)/\p (gt cl k)=true/\s (gt cl k)=q
 | 0=>by
  constructor
  .intro h;simp[oy]at h
  .grind
 | n+1=>by
  rw[oy]
  by_cases h:p (gt cl (n:Int))=true
  .rw[if_pos h,Qw,Lb];constructor
   .grind
   .grind
  .rw[if_neg h,Lb];constructor
   .grind
   .grind
theorem Ou{q:fE}{x:List Int}{n:Nat}(h:(q,x)∈oy p s cl n):x=jI (λc=>p c&&decide (s c=q)) cl n/\x≠[]:=by
 have h1:=(WH (EO n)).1 h;rw[UE]at h1;refine⟨h1.2,λe=>?_⟩;obtain⟨k,d,b,a⟩:=Lb.1 h1.1;have:k∈x:=by rw[h1.2];exact yY.2 ⟨d,by simp[b,a]⟩
 rw[e]at this;cases this
end
def gH(cl:List gp)(i:Int):jK:=oy (λc=>ie c i) (λc=>iW c i) cl cl.length
theorem wR{cl:List gp}{i:Int}{q:fE}:q∈(gH cl i).map (·.1)↔q∈sd cl i:=by
 unfold gH;rw[Lb,rA];constructor
 .rintro⟨k,h1,b,a⟩;exact⟨_,fZ h1.1 h1.2,b,a⟩
 .rintro⟨c,h1,b,a⟩;obtain⟨k,k0,k1,rfl⟩:=xw.1 h1;exact⟨k,⟨k0,k1⟩,b,a⟩
theorem Ov{cl:List gp}{i:Int}:(gH cl i).length=0↔sd cl i = []:=by
 rw[az];constructor
 .intro h;refine aS.2 λq b=>?_;have:=wR.2 b;rw[h]at this;cases this
 .intro h
  cases e:gH cl i with
  | nil=>rfl
  | cons a t=>
   have:a.1∈sd cl i:=wR.1 (by rw[e];simp);rw[h]at this;cases this
theorem Le{cl:List gp}{i:Int}:1<(gH cl i).length↔lk (sd cl i)=true:=by
 have f:((gH cl i).map (·.1)).Nodup:=EO _;constructor
 .intro h
  cases c:lk (sd cl i)with
  | true=>rfl
  | false=>
   have c:=zM.1 c
   match e:gH cl i,h with
   | a::b::t,_=>
    rw[e]at f;have k:a.1∈sd cl i:=wR.1 (by rw[e];simp);have j:b.1∈sd cl i:=wR.1 (by rw[e];simp);simp only[List.map_cons,cY,aw,not_or]at f;exact absurd ((c _ k).trans (c _ j).symm) f.1.1
 .intro h;unfold lk at h;rw[List.any_eq_true]at h;obtain⟨r,d,h1⟩:=h;have h1:r≠pM (sd cl i):=by simpa using h1
  have g:pM (sd cl i)∈sd cl i:=z8 λe=>by rw[e]at d;cases d
  have a:=wR.2 d;have b:=wR.2 g
  match e:gH cl i with
  | []=>rw[e]at a;cases a
  | [x]=>
   rw[e]at a b;simp only[List.map_cons,List.map_nil,List.mem_singleton]at a b;exact absurd (a.trans b.symm) h1
  | x::y::t=>simp
theorem acT{cl:List gp}{i:Int}{x:fE×List Int}(h:gH cl i = [x]):x.1=pM (sd cl i):=by
 have h1:x.1∈sd cl i:=wR.1 (by rw[h];simp)
 have a:lk (sd cl i)=false:=by
  cases e:lk (sd cl i)with
  | false=>rfl
  | true=>
   have:=Le.2 e;rw[h]at this;simp at this
 exact zM.1 a _ h1
theorem aeQ{a b:List fE}(h:∀r,r∈a↔r∈b):lL a=lL b:=by
 unfold lL;have c:∀n,n∈(a.filter λr=>decide (r.1≠2)).map (λr=>r.2)↔n∈(b.filter λr=>decide (r.1≠2)).map (λr=>r.2):=λn=>by simp_all
 obtain⟨A,g⟩:∃A,(a.filter λr=>decide (r.1≠2)).map (λr=>r.2)=A:=⟨_,rfl⟩;obtain⟨B,f⟩:∃B,(b.filter λr=>decide (r.1≠2)).map (λr=>r.2)=B:=⟨_,rfl⟩;rw[g,f]at c ⊢
 by_cases e:A = []
 .have:B = []:=aS.2 λn d=>by grind
  rw[e,this]
 .have i:B≠[]:=λq=>e (aS.2 λn d=>by grind);exact Int.le_antisymm (F8 ((c _).2 (C5 i))) (F8 ((c _).1 (C5 e)))
theorem GR:∀ {a b:List Int},a.Pairwise (· < ·)->b.Pairwise (· < ·)->(∀k,k∈a↔k∈b)->a=b
 | [],[],_,_,_=>rfl
 | [],y::t,_,_,h=>by have:=(h y).2 (by simp);cases this
 | x::t,[],_,_,h=>by have:=(h x).1 (by simp);cases this
 | x::s,y::t,ha,hb,h=>by
  rw[bf]at ha hb
  have e:x=y:=by
   rcases aw.1 ((h x).1 (by simp))with e|e
   .exact e
   .rcases aw.1 ((h y).2 (by simp))with c|c
    .exact c.symm
    .grind
  subst e;congr 1;refine GR ha.2 hb.2 λk=>?_;have:=h k;rw[aw,aw]at this;constructor
  .grind
  .grind
end Go.Proofs.YtmehofoficaelaaGreatDoor
namespace Go.Proofs.YtmehofoficaelaaGreatDoor
open Go Go.AL Classical
def KS:KK:=.ints [.i64,.i64]
def kX(r:fE):Value:=.agg #[.int .i64 r.1,.int .i64 r.2]
def oI(v:Nat)(x:List Int):D:=.fy v (x.length-1) 1 0 x.length
def p5(x:List Int):Ob:=.row 3 (x.length-1) (cl f1 x)
def iC(Q:Nat->Nat):Nat->jK->List (Value×D)
 | _,[]=>[]
 | i,(q,x)::t=>(kX q,oI (Q i) x)::iC Q (i+1) t
def ng(r:fE):jK->Option (Nat×List Int)
 | []=>none
 | (q,x)::t=>if q=r then some (0,x)else(ng r t).map λp=>(p.1+1,p.2)
theorem Wj(a b:fE):mV (kX a) (kX b)=decide (a=b):=by
 obtain⟨f,e⟩:=a;obtain⟨d,b2⟩:=b;unfold kX mV
 by_cases h1:f=d
 .by_cases c:e=b2
  .simp_all
  .simp[c]
 .simp[h1]
theorem Qr(Q:Nat->Nat)(r:fE):∀(G:jK) (i j:Nat),xv (kX r) (iC Q i G) j=(ng r G).map λp=>(j+p.1,oI (Q (i+p.1)) p.2)
 | [],_,_=>rfl
 | (q,x)::t,i,j=>by
  rw[iC,xv,Wj,ng]
  by_cases h:q=r
  .subst h;simp
  .rw[if_neg (by simpa using cF h),if_neg h,Qr Q r t (i+1) (j+1)]
   cases ng r t with
   | none=>rfl
   | some p=>simp[aW,da 1]
theorem Qu(Q:Nat->Nat)(r:fE)(d:D):∀(G:jK) (i:Nat),lZ (iC Q i G) (kX r) d=match ng r G with
  | some p=>(iC Q i G).set p.1 (kX r,d)
  | none=>iC Q i G ++ [(kX r,d)]
 | [],_=>rfl
 | (q,x)::t,i=>by
  rw[iC,lZ,Wj,ng]
  by_cases h:q=r
  .subst h;simp
  .rw[if_neg (by simpa using cF h),if_neg h,Qu Q r d t (i+1)]
   cases ng r t with
   | none=>rfl
   | some p=>simp
theorem yw{r:fE}{k:Int}:∀ {G:jK} {t:Nat} {x:List Int},ng r G=some (t,x)->G[t]? = some (r,x)/\nf r k G=G.set t (r,x ++ [k])
 | [],_,_,h=>by cases h
 | (q,y)::g,t,x,h=>by
  rw[ng]at h;rw[nf]
  by_cases e:q=r
  .grind
  .rw[if_neg e]at h ⊢
   cases a:ng r g with
   | none=>rw[a]at h;cases h
   | some p=>
    rw[a]at h;cases h;obtain⟨h1,b⟩:=yw (k:=k) (t:=p.1) (x:=p.2) a;exact⟨by simpa using h1,by rw[b];simp⟩
theorem UA{r:fE}{k:Int}:∀ {G:jK},ng r G=none->nf r k G=G ++ [(r,[k])]
 | [],_=>rfl
 | (q,y)::g,h=>by
  rw[ng]at h;rw[nf]
  by_cases e:q=r
  .grind
  .rw[if_neg e]at h ⊢
   cases a:ng r g with
   | none=>rw[UA a];rfl
   | some p=>rw[a]at h;cases h
@[simp] theorem zU(Q:Nat->Nat):∀(G:jK) (i:Nat),(iC Q i G).length=G.length
 | [],_=>rfl
 | (q,x)::t,i=>by rw[iC,aG,zU Q t,aG]
theorem wP(Q:Nat->Nat):∀(G:jK) (i t:Nat),(iC Q i G)[t]? = (G[t]?).map λx=>(kX x.1,oI (Q (i+t)) x.2)
 | [],_,_=>rfl
 | (q,x)::g,i,0=>rfl
 | (q,x)::g,i,t+1=>by rw[iC,cW,cW,wP Q g (i+1) t,aW,da 1]
theorem TP{Q Q':Nat->Nat}:∀ {G:jK} {i:Nat},(∀t,t<G.length->Q (i+t)=Q' (i+t))->iC Q i G=iC Q' i G
 | [],_,_=>rfl
 | (q,x)::g,i,h=>by
  have h0:=h 0 (by simp);rw[cd]at h0
  rw[iC,iC,h0,TP (Q:=Q) (Q':=Q') λt a=>by
   have:=h (t+1) (by simp;omega);rw[show i+(t+1)=i+1+t by omega]at this
   exact this]
theorem TQ(Q:Nat->Nat){r:fE}{y:List Int}:∀(G:jK) (i t:Nat),t<G.length->iC Q i (G.set t (r,y))=(iC Q i G).set t (kX r,oI (Q (i+t)) y)
 | [],_,_,h=>by simp at h
 | (q,x)::g,i,0,_=>rfl
 | (q,x)::g,i,t+1,h=>by rw[List.set_cons_succ,iC,iC,List.set_cons_succ,TQ Q g (i+1) t (by simpa using h),show i+1+t=i+(t+1)by omega]
theorem TR(Q:Nat->Nat){r:fE}{y:List Int}:∀(G:jK) (i:Nat),iC Q i (G ++ [(r,y)])=iC Q i G ++ [(kX r,oI (Q (i+G.length)) y)]
 | [],_=>rfl
 | (q,x)::g,i=>by rw[cy,iC,iC,TR Q g (i+1),cy,aG,show i+1+g.length=i+(g.length+1)by omega]
structure mh(H:U)(ck sr n:Nat)(M:Nat->jK)(ow:Nat->Nat×Nat×Nat)(P:Nat->Nat)(Q:Nat->Nat->Nat):Prop where
 fc:ow ck=(0,0,0)
 fs:ow sr=(1,0,0)
 row:H[sr]? = some (.row 170 0 ((List.range n).map λj=>D.gg (P j)))
 mp:∀j,j<n->H[P j]? = some (.map KS (iC (Q j) 0 (M j)))/\ow (P j)=(2,j,0)
 ls:∀j,j<n->∀t x,(M j)[t]? = some x->H[Q j t]? = some (p5 x.2)/\ow (Q j t)=(3,j,t)
section
variable{H H':U}{ck sr n:Nat}{M:Nat->jK}{ow:Nat->Nat×Nat×Nat}{P:Nat->Nat}{Q:Nat->Nat->Nat}
theorem mh.mono(h:mh H ck sr n M ow P Q)(b:∀v o,H[v]? = some o->v≠ck->H'[v]? = some o):mh H' ck sr n M ow P Q:=by
 have ne:∀v,ow v≠(0,0,0)->v≠ck:=λv f e=>f (by rw[e];exact h.fc);refine⟨h.fc,h.fs,b _ _ h.row (ne _ (by rw[h.fs];simp)),λj c=>?_,λj c t x d=>?_⟩
 .obtain⟨h1,a⟩:=h.mp j c;exact⟨b _ _ h1 (ne _ (by rw[a];simp)),a⟩
 .obtain⟨h1,a⟩:=h.ls j c t x d;exact⟨b _ _ h1 (ne _ (by rw[a];simp)),a⟩
def vb(M:Nat->jK)(j:Nat)(G:jK):Nat->jK:=λi=>if i=j then G else M i
theorem mh.old(h:mh H ck sr n M ow P Q){j t:Nat}{r:fE}{x:List Int}{k:Int}(g:j<n)(z:ng r (M j)=some (t,x))
  (h1:H'[P j]? = some (.map KS ((iC (Q j) 0 (M j)).set t (kX r,oI (Q j t) (x ++ [k]))))) (A:H'[Q j t]? = some (p5 (x ++ [k])))
  (f:∀v o,H[v]? = some o->v≠P j->v≠Q j t->ow v≠(0,0,0)->H'[v]? = some o):mh H' ck sr n (vb M j (nf r k (M j))) ow P Q:=by
 obtain⟨m,l⟩:=yw (k:=k) z;have q:t<(M j).length:=(ae.1 m).1;have lt:=(h.ls j g t _ m).2;have d:=(h.mp j g).2;have ne:∀v w,ow v≠ow w->v≠w:=λv w s e=>s (by rw[e]);refine⟨h.fc,h.fs,f _ _ h.row (ne _ _ (by rw[h.fs,d];simp)) (ne _ _ (by rw[h.fs,lt];simp)) (by rw[h.fs];simp),λi hi=>?_,λi hi u y b=>?_⟩
 .obtain⟨c,a⟩:=h.mp i hi;refine⟨?_,a⟩;unfold vb
  by_cases e:i=j
  .subst e;rw[if_pos rfl,h1,l,TQ _ _ _ _ q,aM]
  .grind
 .unfold vb at b
  by_cases e:i=j
  .subst e;rw[if_pos rfl,l,bM]at b
   by_cases p:t=u
   .grind
   .rw[if_neg p]at b;obtain⟨c,a⟩:=h.ls i hi u y b;exact⟨f _ _ c (ne _ _ (by rw[a,d];simp)) (ne _ _ (by rw[a,lt];simp[cF p])) (by rw[a];simp),a⟩
  .rw[if_neg e]at b;obtain⟨c,a⟩:=h.ls i hi u y b;exact⟨f _ _ c (ne _ _ (by rw[a,d];simp)) (ne _ _ (by rw[a,lt];simp[e])) (by rw[a];simp),a⟩
theorem mh.new(h:mh H ck sr n M ow P Q){j v:Nat}{r:fE}{k:Int}(z:j<n)(t:ng r (M j)=none)(C:ck<v)(q:H.length<=v)
  (h1:H'[P j]? = some (.map KS (iC (Q j) 0 (M j) ++ [(kX r,oI v [k])]))) (E:H'[v]? = some (p5 [k]))
  (f:∀w o,H[w]? = some o->w≠P j->ow w≠(0,0,0)->H'[w]? = some o) :
  ∃b Q',mh H' ck sr n (vb M j (nf r k (M j))) b P Q'/\∀w,w≠v->b w=ow w:=by
 have B:=UA (k:=k) t;have d:=(h.mp j z).2;have ne:∀v w,ow v≠ow w->v≠w:=λv w q e=>q (by rw[e]);have lv:∀w o,H[w]? = some o->w≠v:=λw o p=>by grind
 let b:Nat->Nat×Nat×Nat:=λw=>if w=v then(3,j,(M j).length)else ow w
 let Q':Nat->Nat->Nat:=λi u=>if i=j/\u=(M j).length then v else Q i u
 have hP:∀i,i<n->P i≠v:=λi hi=>lv _ _ (h.mp i hi).1;have A:∀i u x,i<n->(M i)[u]? = some x->Q i u≠v:=λi u x hi s=>lv _ _ (h.ls i hi u x s).1;have hs:sr≠v:=lv _ _ h.row;refine⟨b,Q',⟨?_,?_,f _ _ h.row (ne _ _ (by rw[h.fs,d];simp)) (by rw[h.fs];simp),λi hi=>?_,λi hi u y c=>?_⟩,λw p=>if_neg p⟩
 .show(if ck=v then _ else _)=_;rw[if_neg (by omega)];exact h.fc
 .show(if sr=v then _ else _)=_;rw[if_neg hs];exact h.fs
 .obtain⟨m,a⟩:=h.mp i hi;refine⟨?_,?_⟩
  .unfold vb
   by_cases e:i=j
   .subst e;rw[if_pos rfl,h1,B,TR,aM];have l:iC (Q' i) 0 (M i)=iC (Q i) 0 (M i):=TP λu D=>by grind
    have g:Q' i (M i).length=v:=by grind
    rw[l,g]
   .rw[if_neg e];have l:Q' i=Q i:=funext λu=>by grind
    rw[l];exact f _ _ m (ne _ _ (by rw[a,d];simp[e])) (by rw[a];simp)
  .grind
 .unfold vb at c
  by_cases e:i=j/\u=(M j).length
  .grind
  .have c:(M i)[u]? = some y:=by grind
   obtain⟨m,a⟩:=h.ls i hi u y c;have g:Q' i u=Q i u:=by grind
   rw[g];refine⟨f _ _ m (ne _ _ (by rw[a,d];simp)) (by rw[a];simp),?_⟩;show(if Q i u=v then _ else _)=_;rw[if_neg (A i u y hi c)];exact a
