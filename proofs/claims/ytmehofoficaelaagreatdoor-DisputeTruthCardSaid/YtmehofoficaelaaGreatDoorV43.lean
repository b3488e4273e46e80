/- Part 43 of DisputeTruth. -/
import Derived.Test.YtmehofoficaelaaGreatDoorV42
set_option linter.all false
namespace Go.Proofs.YtmehofoficaelaaGreatDoor
open Go Go.AL Classical
set_option maxRecDepth 10000
set_option maxHeartbeats 8000000
theorem aoe(w:Wk)(v:List fO){lo i:Int}(h:lo<=i):oO w v lo (i+1-lo).toNat=oO w v lo (i-lo).toNat ++ [Cl w v i]:=by rw[show(i+1-lo).toNat=(i-lo).toNat+1 by omega,oO,show lo+((i-lo).toNat:Int)=i by omega]
theorem yW(l:List Int):cl fU l=l.map λx=>.val (.int .u8 x):=by
 unfold cl
 induction l with
 | nil=>rfl
 | cons a l b=>simp[b,fU]
theorem Td(ρ:Nat->Option Nat)(H:U)(k:Nat)(l:List Int):(cl fU l).map (gd ρ H (k+1))=cl fU l:=by rw[yW,bY];rfl
theorem PD(l:List Int)(h:l.length=32)(b:D):(cl fU l ++ [b]).drop 33 = []:=by rw[List.drop_eq_nil_iff];simp[h,rh]
theorem adD(w:Wk)(D:w.ok)(who t lo hi:Int)(v:List fO)(h0:0<=lo)(h1:lo<hi)(J:hi<=v.length)(I:v.length<=64)(H:0<=who/\who<=1000) :
  Wf T 92 [.agg w.cells,.agg [.i who,.i t,.i lo,.i hi],ie v] [] (Is (if IG w t=true then .agg (gT ⟨⟨who,lo,hi,oO w v lo (hi-lo).toNat,kj (oO w v lo (hi-lo).toNat)⟩,false⟩ ++ [.b true])else .agg ([.i 0,.i 0,.i 0,.fX]++cl fU (zs 32) ++ [.b false]))):=by
 obtain⟨kind,pos,n,ub,s5⟩:=w;have E:=D.kind;unfold Wk.cells IG;dsimp only at E ⊢
 by_cases h:kind=1\/kind=4\/(kind=3/\n<=t)
 .rw[decide_eq_true h,if_pos rfl];have n1:¬lo<0:=by omega
  have n2:¬hi<lo:=by omega
  have g:¬(v.length:Int)<hi:=by omega
  obtain⟨W,j⟩:∃W,(⟨kind,pos,n,ub,s5⟩:Wk)=W:=⟨_,rfl⟩;have u:∀i,Cl W v i=if kind=4/\i=pos then(ub,s5)else gt v i:=λi=>by rw[<-j];rfl
  have q:∀m,(oO W v lo m).length=m:=TD W v lo;have F:(oO W v lo (hi-lo).toNat).length<=64:=by rw[q];omega
  have c:=PQ (v:=oO W v lo (hi-lo).toNat) (.inl rfl) F;have hl:=Aa (oO W v lo (hi-lo).toNat);rw[j,FX,SR hl];obtain⟨r,o⟩:∃r,kj (oO W v lo (hi-lo).toNat)=r:=⟨_,rfl⟩;rw[o]at c hl ⊢;clear o;have x:r.take 32=r:=af (by omega)
  have G:((kind=1)=True/\(kind=4)=False)\/((kind=1)=False/\(kind=4)=True)\/((kind=1)=False/\(kind=4)=False/\(kind=3)=True/\(n<=t)=True):=by simp;omega
  clear j h;rcases G with e|e|e
  all_goals
   refine Yg yG ?_;simp[yG,n1,n2,g,e];refine fZ.e ((lo,[]):Int×List fO) (λy=>[(2,ie v),(3,.ptr 0 0 0),(4,.ptr 1 0 0),(6,.ptr 2 0 0),(7,.ptr 3 0 0),(8,.i y.1)]) (λy=>.row 149 0 [.i kind,.i pos,.i n,.i ub,.i s5] :: .row 209 0 [.i who,.i t,.i lo,.i hi] :: .row 206 0 (.i 0 :: .i 0 :: .i 0 :: .fX::(cl fU (zs 32) ++ [.b false])) :: .row 72 0 (.i who :: .i lo :: .i hi::(if y.2 = []then .fX else .fM 4 (y.2.length-1) 2 0 y.2.length)::cl fU (zs 32))::(if y.2 = []then []else [.row 86 (y.2.length-1) (cl fS y.2)])) (λy=>(lo<=y.1/\y.1<=hi)/\y.2=oO W v lo (y.1-lo).toNat) (λy=>(hi-y.1).toNat) ?_ ?_
   .simp[oO];omega
   rintro⟨i,A⟩ ⟨⟨i0,B⟩,f⟩;dsimp only at i0 B f ⊢;have l:A.length=(i-lo).toNat:=by rw[f,q]
   by_cases k:i<hi
   .have p:A ++ [Cl W v i]=oO W v lo (i+1-lo).toNat:=by rw[aoe W v i0,<-f]
    have Xo:i<v.length:=by omega
    have s:0<=i:=by omega
    have d:=u i
    by_cases a:A = []
    .subst a;rcases(show(i=pos)=True\/(i=pos)=False by simp;omega)with b|b
     all_goals
      simp[e,b]at d;simp[e,k,b,Xo,s];refine fQ ?_;refine LJ.i (i+1,[Cl W v i]) (by first|rfl|simp[d,iI]) (by first|rfl|simp[d,iI]) rfl rfl ?_;exact⟨by omega,im,p⟩
    .have C:0<A.length:=ax.2 a;rw[if_neg a,if_neg a];rcases(show(i=pos)=True\/(i=pos)=False by simp;omega)with b|b
     all_goals
      simp[e,b]at d;simp[e,k,b,Xo,s];refine fQ ?_;refine LJ.i (i+1,A ++ [Cl W v i]) (by first|rfl|simp[d,show A.length-1+1=A.length by omega]) (by first|rfl|simp[d,show A.length-1+1=A.length by omega]) rfl rfl ?_;exact⟨by omega,im,p⟩
   .have z:i=hi:=by omega
    subst z;have a:A≠[]:=λe=>by rw[e]at l;simp at l;omega
    rw[<-f]at c;rw[<-f];rw[if_neg a,if_neg a];simp[k];refine fQ ?_;refine gj.r rfl rfl c (by simp) (by simp[flat]) (by simp) ?_;simp[hl,x,Td,PD];rfl
 .rw[decide_eq_false h,if_neg (by simp)];have n1:¬lo<0:=by omega
  have n2:¬hi<lo:=by omega
  have g:¬(v.length:Int)<hi:=by omega
  have m1:¬kind=1:=by omega
  have m2:¬kind=4:=by omega
  by_cases m3:kind=3
  .have m4:¬n<=t:=by omega
   refine Yg yG ?_;simp[yG,n1,n2,g,m1,m2,m3,m4,Td,PD]
  .refine Yg yG ?_;simp[yG,n1,n2,g,m1,m2,m3,Td,PD]
def rQ(n:Int):Nat->Int->List fO
 | 0,_=>[]
 | k+1,a=>(a,a+(n-a+k) / (k+1))::rQ n k (a+(n-a+k) / (k+1))
theorem Vh{n a:Int}{k:Nat}(h:((k+1:Nat):Int)<=n-a):1<=(n-a+k) / (k+1)/\(n-a+k) / (k+1)<=n-a-k:=by
 have b:(0:Int)<k+1:=by omega
 refine⟨?_,?_⟩
 .rw[Int.le_ediv_iff_mul_le b];omega
 .have:0<=(n-a-k-1)*(k:Int):=Int.mul_nonneg (by omega) (by omega);have e:(n-a-k+1)*((k:Int)+1)=(n-a-k-1)*k+2*k+(n-a-k+1):=by rw[Int.mul_add,Int.mul_one,show n-a-(k:Int)+1=(n-a-k-1)+2 by omega,Int.add_mul]
  have:=Int.ediv_lt_of_lt_mul b (show n-a+k<(n-a-k+1)*((k:Int)+1)by omega);omega
theorem AE{n:Int}:∀ {k:Nat} {a:Int},0<=a->(k:Int)<=n-a->∀p∈rQ n k a,0<=p.1/\p.1<p.2/\p.2<=n
 | 0,_,_,_,p,hp=>by cases hp
 | k+1,a,h0,h,p,hp=>by
  have b:=Vh h;rcases aw.1 hp with rfl|hp
  .dsimp only;omega
  .exact AE (by omega) (by omega) p hp
theorem Mc{n:Int}:∀ {k:Nat} {a:Int},(rQ n k a).length=k
 | 0,_=>rfl
 | k+1,_=>by rw[rQ,aH,Mc]
theorem adC(n k:Int)(h0:0<n)(s:n<=4000)(k0:0<=k)(k9:k<=4000):Wf T 91 [.i n,.i k] [] (Is (.sl 2 ((rQ n (min k n).toNat 0).map fS))):=by
 by_cases h:k<1
 .have e:(min k n).toNat=0:=by omega
  rw[e];refine Yg Cr ?_;simp[Cr,h];rfl
 .have n1:¬n<1:=by omega
  have n2:¬ 4000<n:=by omega
  obtain⟨K,i⟩:∃K:Nat,min k n=K:=⟨(min k n).toNat,by omega⟩;rw[i,bF];obtain⟨R,d⟩:∃R,rQ n K 0=R:=⟨_,rfl⟩;rw[d];refine Yg Cr ?_;simp[Cr,h,n1,n2,i];refine fZ.e (((0,K),[]):(Int×Nat)×List fO) (λy=>[(0,.i n),(5,.fM 0 y.2.length 2 0 y.2.length),(6,.i y.1.1),(7,.i y.1.2)]) (λy=>[.row 204 y.2.length (cl fS y.2)]) (λy=>((0<=y.1.1/\y.1.1<=n)/\(y.1.2:Int)<=n-y.1.1)/\y.2++rQ n y.1.2 y.1.1=R) (λy=>y.1.2) ?_ ?_
  .simp[d];omega
  rintro⟨⟨a,m⟩,A⟩ ⟨⟨⟨r,p⟩,g⟩,b⟩;dsimp only at r p g b ⊢
  cases m with
  | zero=>
   have f:A=R:=by simpa[rQ]using b
   subst f;clear d;simp
  | succ m=>
   have o:=Vh g
   have c:uG (n-a+(m+1)-1) (m+1)=(n-a+m) / (m+1):=by rw[show n-a+((m:Int)+1)-1=n-a+m by omega,uH (by omega) (by omega) (by omega)]
   rw[rQ]at b;obtain⟨q,j⟩:∃q,(n-a+(m:Int)) / (m+1)=q:=⟨_,rfl⟩;rw[j]at o c b;have l:(A++(a,a+q)::rQ n m (a+q)).length=R.length:=by rw[b]
   have t:R.length=K:=by rw[<-d,Mc]
   simp at l;simp;refine jH c ?_;refine LJ.i ((a+q,m),A ++ [(a,a+q)]) (by first|rfl|simp[c]) (by first|rfl|simp[c]) rfl rfl ?_;dsimp only;exact⟨by omega,⟨im,by omega⟩,by simpa using b⟩
@[irreducible] noncomputable def qv(w:Wk)(who:Int)(p:fO)(v:List fO):Cw:=⟨⟨who,p.1,p.2,oO w v p.1 (p.2-p.1).toNat,kj (oO w v p.1 (p.2-p.1).toNat)⟩,false⟩
noncomputable def uK(ws:List Wk)(v P:List fO)(t:Int):Nat->List Cw
 | 0=>[]
 | n+1=>uK ws v P t n++(if IG (gt ws n) t=true then [qv (gt ws n) n (gt P (n % P.length)) v]else [])
theorem S4{ws:List Wk}{v P:List fO}{t:Int}:∀n,(uK ws v P t n).length<=n
 | 0=>Nat.le_refl 0
 | n+1=>by
  have:=S4 (ws:=ws) (v:=v) (P:=P) (t:=t) n;rw[uK,aj];split
  .simp;omega
  .simp;omega
theorem adq(ws:List Wk)(v:List fO)(k t:Int)(O:∀w∈ws,w.ok)(W:ws.length<=8)(V:0<v.length)(Q:v.length<=64)(k0:0<=k)(k9:k<=4000)
  {R:List Cw} (m:(if k<1 then []else uK ws v (rQ v.length (min k v.length).toNat 0) t ws.length)=R) :
  Wf T 44 [.sl 5 (ws.map ui),ie v,.i k,.i t] [] (λd H=>d = .fM 0 R.length 36 0 R.length/\H = [.row 72 R.length (cl gT R)]):=by
 have E:=adC v.length k (by omega) (by omega) k0 k9;have J:=AE (n:=v.length) (k:=(min k v.length).toNat) (a:=0) (by omega) (by omega);have M:=Mc (n:=v.length) (k:=(min k v.length).toNat) (a:=0);obtain⟨P,hP⟩:∃P,rQ v.length (min k v.length).toNat 0=P:=⟨_,rfl⟩;rw[hP]at E J M m;clear hP;refine Yg IZ ?_;simp[IZ];refine Yc (E) ?_;simp;refine fQ ?_;refine fZ.e ((0,[]):Int×List Cw) (λy=>[(0,.sl 5 (ws.map ui)),(1,ie v),(3,.i t),(9,.sl 2 (P.map fS)),(10,.fM 0 y.2.length 36 0 y.2.length),(11,.i y.1)]) (λy=>[.row 72 y.2.length (cl gT y.2)]) (λy=>((0<=y.1/\y.1<=ws.length)/\(P = []->y.1=0))/\y.2=uK ws v P t y.1.toNat) (λy=>(ws.length-y.1).toNat) ?_ ?_
 .simp[uK]
 rintro⟨i,A⟩ ⟨⟨⟨i0,N⟩,z⟩,o⟩;dsimp only at i0 N z o ⊢
 have U:A.length<=8:=by have:=S4 (ws:=ws) (v:=v) (P:=P) (t:=t) i.toNat;rw[o];omega
 by_cases l:P = []
 .have S:=z l;subst S l
  have s:A=R:=by rw[<-m,if_pos (by simp at M;omega)];exact o
  subst s;clear m
  by_cases hi:(0:Int)<ws.length
  all_goals
   simp[hi];exact mE
 .have I:0<P.length:=ax.2 l
  by_cases hi:i<ws.length
  .have j:gp i P.length=i % P.length:=jt i0;have f:0<=i % (P.length:Int):=bW _ (by omega);have g:i % (P.length:Int)<P.length:=bO _ (by omega);have r:=J _ (gq f g);have c:=adD (gt ws i) (O _ (gq i0 hi)) i t (gt P (i % P.length)).1 (gt P (i % P.length)).2 v r.1 r.2.1 r.2.2 Q ⟨i0,by omega⟩;rw[show(gt ws i).cells = [.i (gt ws i).kind,.i (gt ws i).pos,.i (gt ws i).n,.i (gt ws i).ub,.i (gt ws i).s5]from rfl]at c
   have b:uK ws v P t (i+1).toNat=A++(if IG (gt ws i) t=true then [qv (gt ws i) i (gt P (i % P.length)) v]else []):=by rw[show(i+1).toNat=i.toNat+1 by omega,uK,<-o,show((i.toNat:Nat):Int)=i by omega]
   by_cases B:IG (gt ws i) t=true
   .rw[if_pos B]at c b;rw[show(⟨⟨i,(gt P (i % P.length)).1,(gt P (i % P.length)).2,oO (gt ws i) v (gt P (i % P.length)).1 ((gt P (i % P.length)).2-(gt P (i % P.length)).1).toNat,kj (oO (gt ws i) v (gt P (i % P.length)).1 ((gt P (i % P.length)).2-(gt P (i % P.length)).1).toNat)⟩,false⟩:Cw)=qv (gt ws i) i (gt P (i % P.length)) v by unfold qv;rfl]at c;obtain⟨x,C⟩:∃x,qv (gt ws i) i (gt P (i % P.length)) v=x:=⟨_,rfl⟩;rw[C]at c b;clear C;rw[show gT x=cl gT [x]from(iI _).symm]at c;have q:(cl gT [x]).length=36:=by rw[rh];rfl
    have p:(cl gT [x]).take 36=cl gT [x]:=af (by omega);have L:(cl gT [x] ++ [D.b true])[36]? = some (.b true):=by rw[ai (by omega),q];rfl
    have K:(cl gT [x] ++ [D.b true]).take 37=cl gT [x] ++ [.b true]:=af (by simp[q]);simp[hi,I,j,f,g,i0,C8];(with_reducible repeat' first|refine Xk ?_<;>try simp[j,f,g,C8]|refine Xs ?_ ?_<;>intro h<;>(try intro X)<;>(try simp[h,j,f,g,C8])<;>try omega|refine Xg ?_|omega);refine iW.c rfl rfl c (by simp) (by simp[U2,L6]) ?_;simp[q,p,K,L];refine CN q p K L ?_;refine LJ.i (i+1,A ++ [x]) (by first|rfl|simp[p]) (by first|rfl|simp[p]) rfl rfl ?_;exact⟨by dsimp only;omega,⟨im,λe=>absurd e l⟩,b.symm⟩
   .rw[if_neg B]at c b;rw[az]at b;have u:(cl fU (zs 32)).length=32:=by simp
    have G:(cl fU (zs 32) ++ [D.b false])[32]? = some (.b false):=by rw[ai (by omega),u];rfl
    have F:(cl fU (zs 32) ++ [D.b false]).take 33=cl fU (zs 32) ++ [.b false]:=af (by simp[u]);simp[hi,I,j,f,g,i0,C8];refine qJ j f g ?_;refine iW.c rfl rfl c (by simp) (by simp[U2,L6]) ?_;simp[G,F];refine kM G F ?_;refine LJ.e (i+1,A) ?_;exact⟨by dsimp only;omega,⟨im,λe=>absurd e l⟩,b.symm⟩
  .have s:A=R:=by rw[<-m,if_neg (by omega),o,show i.toNat=ws.length by omega]
   subst s;clear m;simp[hi]
structure IK(x:Cw):Prop where
 ok:x.ok
 b:∀r∈x.c.es,r.2<=4000
def OX(n:Nat)(sd:Bool)(L:List Cw):Prop:=L.length<=10/\∀x∈L,IK x/\(sd=true->x.em=false/\0<=x.c.lo/\x.c.lo<x.c.hi/\x.c.hi<=n/\(x.c.es.length:Int)=x.c.hi-x.c.lo/\x.c.root=kj x.c.es)
theorem abg{w:Wk}{v:List fO}{lo:Int}{r:fO}:∀ {n:Nat},r∈oO w v lo n->0<=lo->lo+n<=v.length->r∈v\/r=(w.ub,w.s5)
 | 0,h,_,_=>by cases h
 | n+1,h,h0,h1=>by
  rcases List.mem_append.1 h with h|h
  .exact abg h h0 (by omega)
  .rw[List.mem_singleton.1 h,Cl];split
   .exact .inr rfl
   .exact .inl (gq (by omega) (by omega))
theorem an2{w:Wk}(b:w.ok){who:Int}{p:fO}{v:List fO}(a:0<=p.1/\p.1<p.2/\p.2<=v.length)(e:v.length<=64)(c:∀r∈v,r.2<=4000) :
  IK (qv w who p v)/\((qv w who p v).em=false/\0<=(qv w who p v).c.lo/\(qv w who p v).c.lo<(qv w who p v).c.hi/\(qv w who p v).c.hi<=v.length/\((qv w who p v).c.es.length:Int)=(qv w who p v).c.hi-(qv w who p v).c.lo/\(qv w who p v).c.root=kj (qv w who p v).c.es):=by
 have hl:=TD w v p.1 (p.2-p.1).toNat;unfold qv;refine⟨⟨⟨(λh=>by cases h),?_,Aa _,?_,?_⟩,λr d=>?_⟩,rfl,?_,?_,?_,?_,rfl⟩
 .dsimp only;omega
 .dsimp only;omega
 .dsimp only;omega
 .rcases abg d a.1 (by omega)with h|rfl
  .exact c r h
  .have:=b.s5;dsimp only;omega
 .exact a.1
 .exact a.2.1
 .exact a.2.2
 .dsimp only;omega
theorem aam{ws:List Wk}{v P:List fO}{t:Int}(c:∀w∈ws,w.ok)(hP:∀p∈P,0<=p.1/\p.1<p.2/\p.2<=v.length)(b:0<P.length)(e:v.length<=64)(d:∀r∈v,r.2<=4000) :
  ∀n,n<=ws.length->∀x∈uK ws v P t n,IK x/\(true=true->x.em=false/\0<=x.c.lo/\x.c.lo<x.c.hi/\x.c.hi<=v.length/\(x.c.es.length:Int)=x.c.hi-x.c.lo/\x.c.root=kj x.c.es)
 | 0,_,x,a=>by cases a
 | n+1,hn,x,a=>by
  rcases List.mem_append.1 a with a|a
  .exact aam c hP b e d n (by omega) x a
  .split at a
   .rw[List.mem_singleton.1 a];have:=an2 (who:=n) (c (gt ws n) (gq (by omega) (by omega))) (hP (gt P ((n:Int) % P.length)) (gq (bW _ (by omega)) (bO _ (by omega)))) e d;exact⟨this.1,λ_=>this.2⟩
   .cases a
def On(n:Nat)(sd:Bool):D->U->Prop:=λd H=>∃L g,d = .fM 0 g 36 0 L.length/\H = [.row 72 g (cl gT L)]/\OX n sd L
theorem gj.on{f:FuncId}{args:List D}{dst:Option Nat}{s:St}{K:St->Prop}{fn:je}{n:Nat}{sd:Bool}(c:T.fn f=some fn)(b:fn.full=false)(h:Wf T f args [] (On n sd))
  (a:gw args=true) (k:∀L g,OX n sd L->K { s with env:=put s.env dst (.fM s.H.length g 36 0 L.length),H:=s.H ++ [.row 72 g (cl gT L)] }):gj T f args dst s K .mk:=by
 refine gj.is c b (K0:=On n sd) ?_ ?_
 .have i:args.map (gd (λ_=>none) s.H 40)=args:=by
   conv=>rhs;rw[<-aY args]
   exact au λd e=>p5 (lH a d e)
  rw[i];exact h
 .rintro d' j ⟨L,g,rfl,rfl,hP⟩;refine⟨_,?_,k L g hP⟩;unfold after;rw[if_pos a,if_pos (by simp)];simp
theorem adA(v:List fO)(l:List B5)(k t a b c:Int)(hl:∀x∈l,x.ok)(X:0<v.length)(M:v.length<=64)(Q:∀r∈v,r.2<=4000)(k0:0<=k)(k9:k<=4000)
  (U:0<=a/\a<256) (S:0<=b/\b<256) (Z:0<=c/\c<256) :
  Wf T 73 [ie v,.sl 5 (l.map f5),.i k,.i t,.agg [.val (.int .u8 a),.val (.int .u8 b),.val (.int .u8 c)]] [] (On v.length (decide (a % 8<6))):=by
 have C:=adg l hl
 have J:∀w∈(l.take 8).map B5.wk,w.ok:=λw P=>by obtain⟨x,_,rfl⟩:=ao.1 P;exact an3 _
 have F:((l.take 8).map B5.wk).length<=8:=by simp;omega
 obtain⟨ws,O⟩:∃ws,(l.take 8).map B5.wk=ws:=⟨_,rfl⟩;rw[O]at C J F
 have D:∀x∈(if k<1 then []else uK ws v (rQ v.length (min k v.length).toNat 0) t ws.length),IK x/\(true=true->x.em=false/\0<=x.c.lo/\x.c.lo<x.c.hi/\x.c.hi<=v.length/\(x.c.es.length:Int)=x.c.hi-x.c.lo/\x.c.root=kj x.c.es):=by
  intro x d;split at d
  .cases d
  .exact aam J (AE (by omega) (by omega)) (by rw[Mc];omega) M Q _ (Nat.le_refl _) x d
 have W:(if k<1 then []else uK ws v (rQ v.length (min k v.length).toNat 0) t ws.length).length<=8:=by
  split
  .simp
  .exact Nat.le_trans (S4 _) F
 obtain⟨R,I⟩:∃R,(if k<1 then []else uK ws v (rQ v.length (min k v.length).toNat 0) t ws.length)=R:=⟨_,rfl⟩;have c2:=adq ws v k t J F X M k0 k9 I;rw[I]at D W;clear I O;have g:gp a 8=a % 8:=jt U.1
 by_cases L:R = []
 .subst L;refine Yg vX ?_;simp[vX];refine Yc (C) ?_;simp;refine fQ ?_;refine Go.AL.gj.n rfl rfl c2 (by simp) (by simp) ?_;simp;exact⟨[],0,rfl,by simp,by simp[OX]⟩
 have e:0<R.length:=ax.2 L;have j:0<=b % (R.length:Int):=bW _ (by omega);have m:b % (R.length:Int)<R.length:=bO _ (by omega);have o:gp b R.length=b % R.length:=jt S.1;have n:IntKind.i64.wrap b=b:=mV im;have wc:IntKind.i64.wrap c=c:=mV im;have d:=D _ (gq j m);obtain⟨x,N⟩:∃x,gt R (b % R.length)=x:=⟨_,rfl⟩;rw[N]at d;have H:=Mx d.1.ok;have G:=d.1.ok.root;obtain⟨⟨who,lo,hi,es,root⟩,em⟩:=x;dsimp only at G
 obtain⟨z,rs,rfl⟩:∃z rs,root=z::rs:=by
  cases root with
  | nil=>cases G
  | cons z rs=>exact⟨z,rs,rfl⟩
 have f:rs.length=31:=by simpa using G
 have s:rs.take 31=rs:=af (by omega);have Y:(cl fU rs).take 31=cl fU rs:=af (by simp[f]);have q:gT (gt R (b % R.length)) = [.i who,.i lo,.i hi,dE em es,.val (.int .u8 z)]++cl fU rs:=by rw[N,H];simp[Cw.cells,mO]
 have K:∀u p E,-1000000<=u/\u<=1000000->-1000000<=p/\p<=1000000->On v.length false (.fM 0 (R.length+1) 36 0 (R.length+1)) [.row 72 (R.length+1) (cl gT R ++ .i who :: .i u :: .i p::dE em es :: .val (.int .u8 E)::cl fU rs)]:=λu p E q1 q2=>by
  have fV:Cw.ok ⟨⟨who,u,p,es,E::rs⟩,em⟩:=⟨d.1.ok.em,d.1.ok.es,by simp[f],q1,q2⟩;refine⟨R ++ [⟨⟨who,u,p,es,E::rs⟩,em⟩],R.length+1,by simp,?_,by simp;omega,λy i=>⟨?_,λh=>by cases h⟩⟩
  .rw[<-pL,Mx fV];simp[Cw.cells,mO]
  .rcases List.mem_append.1 i with i|i
   .exact(D y i).1
   .rw[List.mem_singleton.1 i];exact⟨fV,d.1.b⟩
 have q1:=d.1.ok.lo;have q2:=d.1.ok.hi;have q3:=(d.2 rfl).2;dsimp only at q1 q2 q3
 by_cases A:a % 8=7
 .refine Yg vX ?_;simp[vX];refine Yc (C) ?_;simp;refine fQ ?_;refine Go.AL.gj.n rfl rfl c2 (by simp) (by simp) ?_;simp[e,g,A,n,o,j,m,q,f,s];(with_reducible repeat' first|refine Xk ?_<;>try simp[e,g,A,n,o,j,m,q,f,s]|refine Xs ?_ ?_<;>intro h<;>(try intro V)<;>(try simp[h,e,g,A,n,o,j,m,q,f,s])<;>try omega|refine Xg ?_|omega);exact K _ _ _ q1 q2
 .by_cases B:a % 8=6
  .refine Yg vX ?_;simp[vX];refine Yc (C) ?_;simp;refine fQ ?_;refine Go.AL.gj.n rfl rfl c2 (by simp) (by simp) ?_;simp[e,g,B,n,wc,o,j,m,q,f,s];(with_reducible repeat' first|refine Xk ?_<;>try simp[e,g,B,n,wc,o,j,m,q,f,s]|refine Xs ?_ ?_<;>intro h<;>(try intro V)<;>(try simp[h,e,g,B,n,wc,o,j,m,q,f,s])<;>try omega|refine Xg ?_|omega);exact K _ _ _ (by omega) (by omega)
  .refine Yg vX ?_;simp[vX];refine Yc (C) ?_;simp;refine fQ ?_;refine Go.AL.gj.n rfl rfl c2 (by simp) (by simp) ?_;simp[e,g,B,A];refine CN e g B A ?_;exact⟨R,R.length,rfl,rfl,by omega,λy i=>⟨(D y i).1,λ_=>(D y i).2 rfl⟩⟩
theorem VM(v:List fO)(d:v.length<=64):Wf T 28 [ie v] [] (Is (.agg (gT ⟨xm v,false⟩))):=by have c:=PQ (v:=v) (.inl rfl) d;have hl:=Aa v;rw[FX];unfold xm;dsimp only;rw[SR hl];obtain⟨r,a⟩:∃r,kj v=r:=⟨_,rfl⟩;rw[a]at c hl ⊢;clear a;have b:r.take 32=r:=af (by omega);refine Yg IW ?_;simp[IW];refine Yc (c) ?_;simp;refine fQ ?_;simp[hl,b];rfl
theorem adl(v:List fO)(l:List B5)(K d a b c:Int)(hl:∀x∈l,x.ok)(p:0<v.length)(o:v.length<=64)(h:∀r∈v,r.2<=4000)(n:0<=K/\K<256)(m:0<=d/\d<256)
  (k:0<=a/\a<256) (j:0<=b/\b<256) (i:0<=c/\c<256) :
  Wf T 26 [ie v,.agg [.sl 5 (l.map f5),.val (.int .u8 K),.val (.int .u8 d),.val (.int .u8 a),.val (.int .u8 b),.val (.int .u8 c)]] [] (On v.length (decide (a % 8<6))):=by
 have f:gp (IntKind.i64.wrap K) 5=K % 5:=by rw[mV im];exact jt n.1
 have rt:gp (IntKind.i64.wrap d) 6=d % 6:=by rw[mV im];exact jt m.1
 have e:=adA v l (K % 5) (d % 6) a b c hl p o h (by omega) (by omega) k j i;refine Yg IU ?_;simp[IU,f,rt];refine kM f rt ?_;refine gj.on rfl rfl e (by simp) λL g hP=>?_;simp;exact⟨L,g,rfl,rfl,hP⟩
set_option maxHeartbeats 4000000
structure B2 where
 a:Int
 b:Int
 deriving Inhabited
structure B2.ok(x:B2):Prop where
 a:0<=x.a/\x.a<256
 b:0<=x.b/\x.b<256
@[irreducible] def wB(x:B2):List D:=[.val (.int .u8 x.a),.val (.int .u8 x.b)]
@[simp] theorem asW(x:B2):wB x = [.val (.int .u8 x.a),.val (.int .u8 x.b)]:=by unfold wB;rfl
instance:Fl wB 2:=⟨λ_=>by simp,λ_=>by simp[gw]⟩
def B2.vT(x:B2):fO:=(1+x.a % 3,if x.a % 3=1 then 0 else x.b)
theorem VL(l:List B2)(hl:∀x∈l,x.ok)(n:Int)(n0:0<=n)(u:n<=4000):Wf T 27 [.sl 2 (l.map wB),.i n] [] (Is (ie ((l.take n.toNat).map B2.vT))):=by
 obtain⟨R,o⟩:∃R,(l.take n.toNat).map B2.vT=R:=⟨_,rfl⟩;rw[o];refine Yg IV ?_;simp[IV];refine fZ.e ((0,[]):Int×List fO) (λy=>[(0,.sl 2 (l.map wB)),(1,.i n),(5,.fM 0 y.2.length 2 0 y.2.length),(6,.i y.1)]) (λy=>[.row 86 y.2.length (cl fS y.2)]) (λy=>(0<=y.1/\y.1<=l.length/\y.1<=n)/\y.2=(l.take y.1.toNat).map B2.vT) (λy=>(l.length-y.1).toNat) ?_ ?_
 .simp[n0]
 rintro⟨i,A⟩ ⟨⟨i0,r,p⟩,f⟩;dsimp only at i0 r p f ⊢;have v:A.length=i.toNat:=by rw[f];simp;omega
 by_cases hi:i<l.length/\i<n
 .have e:=Ck (l:=l) i0 hi.1;have j:=hl _ (gq i0 hi.1);have c:gp (gt l i).a 3=(gt l i).a % 3:=jt j.a.1;have w:=j.a;have t:=j.b;have b:IntKind.i64.wrap ((gt l i).a % 3)=(gt l i).a % 3:=mV im;have w1:IntKind.i64.wrap 1=1:=rfl;have a:IntKind.i64.wrap (gt l i).b=(gt l i).b:=mV im;have g:A ++ [(gt l i).vT]=(l.take (i+1).toNat).map B2.vT:=by rw[e,List.map_append,<-f];rfl
  obtain⟨q,m⟩:∃q,(gt l i).vT=q:=⟨_,rfl⟩;have d:=m;rw[m]at g;unfold B2.vT at d
  by_cases h1:(gt l i).a % 3=1
  .rw[if_pos h1,h1]at d;simp[hi.1,hi.2,c,b,a,h1,w1];(with_reducible repeat' first|refine Xk ?_<;>try simp[c,b,a,h1,w1]|refine Xs ?_ ?_<;>intro h<;>(try intro s)<;>(try simp[h,c,b,a,h1,w1])<;>try omega|refine Xg ?_|omega);subst d;refine LJ.i (i+1,A ++ [(2,0)]) (by first|rfl|simp) (by first|rfl|simp) (by first|rfl|simp) (by first|rfl|simp) ?_;exact⟨by omega,l4,g⟩
  .rw[if_neg h1]at d;have k:¬ 1+(gt l i).a % 3=2:=by omega
   simp[hi.1,hi.2,c,b,a,h1,k];(with_reducible repeat' first|refine Xk ?_<;>try simp[c,b,a,h1,k]|refine Xs ?_ ?_<;>intro h<;>(try intro s)<;>(try simp[h,c,b,a,h1,k])<;>try omega|refine Xg ?_|omega);subst d;refine LJ.i (i+1,A ++ [(1+(gt l i).a % 3,(gt l i).b)]) (by first|rfl|simp) (by first|rfl|simp) (by first|rfl|simp) (by first|rfl|simp) ?_;exact⟨by omega,l4,g⟩
 .have:(l.take i.toNat)=l.take n.toNat:=by
   by_cases h:i<l.length
   .rw[show i=n by omega]
   .rw[af (by omega),af (by omega)]
  rw[this,o]at f;subst f
  by_cases h:i<l.length
  .simp[h,show¬i<n by omega]
  .simp[h]
set_option maxHeartbeats 32000000
structure OW(V:List fO):Prop where
 len:V.length<=64
 bd:∀r∈V,r.2<=4000
theorem OW.ok{V:List fO}(h:OW V):(⟨xm V,false⟩:Cw).ok:=by have:=h.len;exact⟨(λh=>by cases h),this,Aa V,by unfold xm;dsimp only;omega,by unfold xm;dsimp only;omega⟩
theorem Zr{l:List B2}(hl:∀y∈l,y.ok){n:Nat}(c:n<=64):OW ((l.take (n:Int).toNat).map B2.vT):=by
 refine⟨by simp;omega,λr b=>?_⟩;obtain⟨y,a,rfl⟩:=ao.1 b;have:=(hl y (aS a)).b;unfold B2.vT;dsimp only;split
 .omega
 .omega
end Go.Proofs.YtmehofoficaelaaGreatDoor
namespace Go.Proofs.YtmehofoficaelaaGreatDoor
open Go Go.AL Classical
set_option maxRecDepth 10000
set_option maxHeartbeats 4000000
section
variable{g:fY}{l:List Pos}
theorem Wl(hg:gN g)(a:oP g l):xf g l (gu g l) (upto l.length) 1:=
 ⟨hg,a.ok,a.len,by simp[gu],λi i0 b=>⟨(qn a i0 b).2,by rw[(qn a i0 b).1,List.length_map];have:=zU hg (a.ok _ (gq i0 b));omega⟩,λi hi=>iS.1 hi,
  eV.2 (List.nodup_range.imp λh e=>h (Int.ofNat.inj e)),by simp[upto];exact a.len,by omega⟩
theorem FI.congr{v0 v v':List fO}{b x:List Bool}{n:Int}(F:oP g l)(h:FI g l (gu g l) (upto l.length) v0 n v b)(E:v'.length=l.length)(G:x.length=l.length)
  (u:∀k:Int,0<=k->k<l.length->gt x k=gt b k) (z:∀k:Int,0<=k->k<l.length->gt b k=false->gt v' k=gt v k):FI g l (gu g l) (upto l.length) v0 n v' x:=by
 have gy:=λ(i:Int) (hi:i∈upto l.length)=>(qn F (iS.1 hi).1 (iS.1 hi).2).2;have t:=λ(i:Int) (hi:i∈upto l.length) k d=>u k (gy i hi k d).1 (gy i hi k d).2;have r:=λ(i:Int) (hi:i∈upto l.length) k d=>z k (gy i hi k d).1 (gy i hi k d).2;refine⟨E,G,λk k0 k1 d=>absurd (iS.2 ⟨k0,k1⟩) d,λi hi e=>?_,λi hi e n0=>?_⟩
 .have p:=iS.1 hi;rw[u i p.1 p.2]at e;obtain⟨a,c⟩:=h.dec i hi e;rw[z i p.1 p.2 e];refine⟨a,?_⟩;rcases c with c|⟨A,⟨m,m1,c2,⟨k,d,s,w⟩,J⟩|⟨m,m1,c2,s,k,d,w⟩⟩
  .exact .inl c
  .refine .inr ⟨A,.inl ⟨m,m1,c2,⟨k,d,by rw[t i hi k d];exact s,by rw[r i hi k d s];exact w⟩,λq j f o=>?_⟩⟩;rw[t i hi q j]at f;rw[r i hi q j f]at o ⊢;exact J q j f o
  .refine .inr ⟨A,.inr ⟨m,m1,c2,λq j=>?_,k,d,by rw[r i hi k d (s k d).1];exact w⟩⟩;rw[t i hi q j,r i hi q j (s q j).1];exact s q j
 .have p:=iS.1 hi;rw[u i p.1 p.2]at e;obtain⟨D,C,B⟩:=h.BW i hi e n0;refine⟨D,λk d f o=>?_,λI H=>?_⟩
  .rw[t i hi k d]at f;rw[r i hi k d f]at o ⊢;exact C k d f o
  .have y:∀k∈gt (gu g l) i,gt b k=false/\(gt v k).1=1:=λk d=>by obtain⟨f,o⟩:=H k d;rw[t i hi k d]at f;rw[r i hi k d f]at o;exact⟨f,o⟩
   obtain⟨k,d,h1⟩:=B I y;exact⟨k,d,by rw[r i hi k d (y k d).1];exact h1⟩
structure KI(g:fY)(l:List Pos)(n:Int)(v:List Kn):Prop where
 len:v.length=l.length
 fi:FI g l (gu g l) (upto l.length) [] n (kV v) (kB v)
theorem Ym(v:List Kn):(kV v).length=v.length:=by simp[kV]
theorem Yl(v:List Kn):(kB v).length=v.length:=by simp[kB]
theorem KI.start(h:oP g l):KI g l 1 (l.map (sE g)):=by
 have hl:(l.map (sE g)).length=l.length:=by simp
 have f:∀k:Int,0<=k->k<l.length->gt (l.map (sE g)) k=sE g (gt l k):=λk k0 k1=>by rw[jb k0 (by rw[hl];exact k1),jb k0 k1,List.getElem_map]
 have hV:∀k:Int,0<=k->k<l.length->gt (kV (l.map (sE g))) k=((stat g (gt l k)).1,0):=λk k0 k1=>by rw[AY k0 (by rw[hl];exact k1),f k k0 k1];rfl
 have d:∀k:Int,0<=k->k<l.length->gt (kB (l.map (sE g))) k = !(stat g (gt l k)).2:=λk k0 k1=>by rw[wE k0 (by rw[hl];exact k1),f k k0 k1];rfl
 have gy:=λ(i:Int) (hi:i∈upto l.length)=>(qn h (iS.1 hi).1 (iS.1 hi).2).2;refine⟨hl,by rw[Ym,hl],by rw[Yl,hl],λk k0 k1 b=>absurd (iS.2 ⟨k0,k1⟩) b,λi hi e=>?_,λi hi e _=>?_⟩
 .have a:=iS.1 hi;rw[d i a.1 a.2]at e;rw[hV i a.1 a.2];exact⟨by simp,.inl ⟨by simpa using e,rfl⟩⟩
 .have a:=iS.1 hi;rw[d i a.1 a.2]at e;refine⟨by simpa using e,λk b _ _=>by rw[hV k (gy i hi k b).1 (gy i hi k b).2];simp,λj _=>?_⟩;have m:=ax.2 j;have c:=gq (l:=gt (gu g l) i) (n:=0) (by omega) (by omega);exact⟨_,c,by rw[hV _ (gy i hi _ c).1 (gy i hi _ c).2];simp⟩
theorem KI.nn{n:Int}{v:List Kn}(h:KI g l n v){k:Int}(k0:0<=k)(k1:k<l.length)(e:(gt v k).2.2=true):0<=(gt v k).2.1:=by
 have k2:k<v.length:=by rw[h.len];exact k1
 have:=(h.fi.dec k (iS.2 ⟨k0,k1⟩) (by rw[wE k0 k2,e];rfl)).1.1;rwa [AY k0 k2]at this
theorem KI.ne{n:Int}{v:List Kn}(b:oP g l)(h:KI g l n v)(n0:0<n){k:Int}(k0:0<=k)(k1:k<l.length)(e:(gt v k).2.2=false):gt (gu g l) k≠[]:=λa=>by
 have k2:k<v.length:=by rw[h.len];exact k1
 have:=(h.fi.BW k (iS.2 ⟨k0,k1⟩) (by rw[wE k0 k2,e];rfl) n0).1;rw[(qn b k0 k1).1,List.map_eq_nil_iff]at a;unfold stat at this;simp[a]at this
theorem KI.step(hg:gN g)(m:oP g l){n:Int}{v now:List Kn}(h:KI g l n v)(n1:1<=n)(hl:now.length=l.length)
  (q:∀k:Int,0<=k->k<l.length->gt now k=if (gt v k).2.2=false then pg v (gt (gu g l) k) n else gt v k):KI g l (n+1) now:=by
 have o:=Wl hg m;have s:=h.fi.vl;have p:=h.fi.bl;have hs:=h.fi.step (v0:=[]) o (λk k0 k1=>(dS 0:0<=(gt ([]:List fO) k).2)) (by omega:0<=n)
 have d:∀k:Int,0<=k->k<l.length->(k∈rR g l (gu g l) (upto l.length) (kV v) (kB v) n↔(gt v k).2.2=false/\(oU g (gt l k) (kV v) (kB v) (gt (gu g l) k) n).2=true):=λk k0 k1=>by
  have k2:k<v.length:=by rw[h.len];exact k1
  unfold rR SD;rw[aM,Bool.and_eq_true,wE k0 k2,iS];simp only[dp];exact⟨λa=>⟨a.2.2,a.2.1⟩,λa=>⟨⟨k0,k1⟩,a.2,a.1⟩⟩
 have j:∀k:Int,0<=k->k<l.length->(gt v k).2.2=false->((oU g (gt l k) (kV v) (kB v) (gt (gu g l) k) n).2=true->pg v (gt (gu g l) k) n=((oU g (gt l k) (kV v) (kB v) (gt (gu g l) k) n).1.1,(oU g (gt l k) (kV v) (kB v) (gt (gu g l) k) n).1.2,true))/\((oU g (gt l k) (kV v) (kB v) (gt (gu g l) k) n).2=false->pg v (gt (gu g l) k) n=(0,0,false)):=λk k0 k1 e=>by
  have r:=ax.2 (h.ne m (by omega) k0 k1 e);unfold oU pg;rw[if_neg (by omega)]
  by_cases i:BK (kV v) (kB v) (gt (gu g l) k) n
  .rw[if_pos i,if_pos i];exact⟨λ_=>rfl,λe=>by cases e⟩
  .rw[if_neg i,if_neg i];simp only[decide_eq_true_eq,decide_eq_false_iff_not];exact⟨λa=>by rw[if_pos ⟨a.2.1,a.2.2⟩],λa=>by rw[if_neg λb=>a ⟨r,b⟩]⟩
 refine⟨hl,hs.congr m (by rw[Ym,hl]) (by rw[Yl,hl]) (λk k0 k1=>?_) λk k0 k1 e=>?_⟩
 .have k2:k<now.length:=by rw[hl];exact k1
  have k3:k<v.length:=by rw[h.len];exact k1
  rw[wE k0 k2,Qf o p k0 k1,q k k0 k1,wE k0 k3]
  by_cases e:(gt v k).2.2=false
  .rw[if_pos e]
   by_cases c:(oU g (gt l k) (kV v) (kB v) (gt (gu g l) k) n).2=true
   .rw[(j k k0 k1 e).1 c,if_pos ((d k k0 k1).2 ⟨e,c⟩)];rfl
   .rw[(j k k0 k1 e).2 (by simpa using c),if_neg λa=>c ((d k k0 k1).1 a).2,e]
  .rw[if_neg e,if_neg λa=>e ((d k k0 k1).1 a).1]
 .have k2:k<now.length:=by rw[hl];exact k1
  have k3:k<v.length:=by rw[h.len];exact k1
  rw[Qf o p k0 k1,wE k0 k3]at e;rw[AY k0 k2,WH o s p k0 k1,q k k0 k1,AY k0 k3]
  by_cases f:(gt v k).2.2=false
  .rw[if_pos f]
   by_cases c:(oU g (gt l k) (kV v) (kB v) (gt (gu g l) k) n).2=true
   .rw[(j k k0 k1 f).1 c,if_pos ((d k k0 k1).2 ⟨f,c⟩)];rfl
   .rw[if_neg λa=>c ((d k k0 k1).1 a).2,f]at e;cases e
  .rw[if_neg f,if_neg λa=>f ((d k k0 k1).1 a).1]
theorem KI.done(hg:gN g)(q:oP g l){v:List Kn}(h:KI g l (l.length+1) v){out:List fO}(hl:out.length=l.length)
  (r:∀k:Int,0<=k->k<l.length->gt out k=if (gt v k).2.2=true then((gt v k).1,(gt v k).2.1)else(2,0)):∀k:Int,0<=k->k<l.length->kn (jM g l (gu g l)) out k:=by
 have o:=Wl hg q;have gy:=λ(i:Int) (hi:i∈upto l.length)=>(qn q (iS.1 hi).1 (iS.1 hi).2).2
 have t:=UM (n:=l.length) (N:=λi=>(gt (kV v) i).2) (K:=λi=>i∈upto l.length/\gt (kB v) i=false) (λi hi=>⟨iS.1 hi.1,(h.fi.dec i hi.1 hi.2).1.1⟩) (λi hi=>by
  rcases(h.fi.dec i hi.1 hi.2).2 with⟨_,c⟩|⟨_,⟨m,m1,c2,⟨k,b,j,f⟩,_⟩|⟨m,m1,c2,j,k,b,f⟩⟩
  .left;show(gt (kV v) i).2=0;rw[c]
  .right;exact⟨k,⟨iS.2 (gy i hi.1 k b),j⟩,by show(gt (kV v) k).2=(gt (kV v) i).2-1;rw[c2,f]⟩
  .right;exact⟨k,⟨iS.2 (gy i hi.1 k b),(j k b).1⟩,by show(gt (kV v) k).2=(gt (kV v) i).2-1;rw[c2,f]⟩)
 have s:=aeA o (by omega) h.fi (λk k0 k1 e _=>by have:=t k ⟨iS.2 ⟨k0,k1⟩,e⟩;omega);obtain⟨_,f2⟩:=V9 o h.fi.vl h.fi.bl
 have p:∀k:Int,0<=k->k<l.length->gt out k=gt (wC (upto l.length) (kV v) (kB v)).1 k:=λk k0 k1=>by
  have k2:k<v.length:=by rw[h.len];exact k1
  rw[r k k0 k1,(f2 k k0 k1).1,wE k0 k2,AY k0 k2]
  by_cases e:(gt v k).2.2=true
  .rw[if_pos e,if_neg λa=>by rw[e]at a;exact absurd a.2 (by simp)]
  .rw[if_neg e,if_pos ⟨iS.2 ⟨k0,k1⟩,by simpa using e⟩]
 exactλi i0 d=>(s i (iS.2 ⟨i0,d⟩)).congr (p i i0 d) λk b=>p k (gy i (iS.2 ⟨i0,d⟩) k b).1 (gy i (iS.2 ⟨i0,d⟩) k b).2
end
end Go.Proofs.YtmehofoficaelaaGreatDoor
namespace Go.Proofs.YtmehofoficaelaaGreatDoor
open Go Go.AL Classical
set_option maxRecDepth 10000
set_option maxHeartbeats 4000000
theorem aeW{α:Type}[Inhabited α]{l:List α}{x:α}{n:Int}(h:n.toNat=l.length):gt (l ++ [x]) n=x:=by unfold gt;rw[List.getD_eq_getElem?_getD,ai (by omega),h,bV];rfl
theorem aeq(g:fY)(hg:gN g)(l:List Pos)(hl:oP g l)(O:0<l.length):Wf T 71 [dG g,gQ l,.sl 1 ((gu g l).map fI)] [] (Ey ie λr=>r.length=l.length/\∀k:Int,0<=k->k<l.length->kn (jM g l (gu g l)) r k):=by
 have E:=hl.len;have N:(gu g l).length=l.length:=by simp[gu]
 refine Yg K2 ?_;simp[K2];refine Yn (aeu g hg l hl) ?_;simp;have P:(l.map (sE g)).length=l.length:=by simp
 have M:=KI.start hl;generalize Q:l.map (sE g)=v0 at *;refine fZ.e ((1,true,l.length,v0):Int×Bool×Nat×List Kn) (λy=>[(1,gQ l),(2,.sl 1 ((gu g l).map fI)),(7,.fM (if y.2.1 then 1 else 2) y.2.2.1 3 0 l.length),(8,.i y.1)]) (λy=>.row 43 0 g.cells :: .row 245 l.length (cl fK v0)::(if y.2.1 then []else [.row 245 y.2.2.1 (cl fK y.2.2.2)])) (λy=>1<=y.1/\y.1<=l.length+1/\KI g l y.1 y.2.2.2/\(y.2.1=true->y.2.2.1=l.length/\y.2.2.2=v0/\y.1=1)) (λy=>l.length+1-y.1.toNat) ?_ ?_
 .exact⟨by simp,by simp;omega,M,λ_=>⟨rfl,rfl,rfl⟩⟩
 rintro⟨n,b,p,v⟩ ⟨n0,n1,m,B⟩;dsimp only at n0 n1 m B ⊢;have n2:=m.len
 have G:∀i:Int,0<=i->i<l.length->∀k∈gt (gu g l) i,0<=k/\k<v.length:=λi a c k o=>by have:=(qn hl a c).2 k o;omega
 have D:∀i:Int,0<=i->i<l.length->(gt (gu g l) i).length<2 ^ 40:=λi a c=>by rw[(qn hl a c).1,List.length_map];have:=zU hg (hl.ok _ (gq a c));omega
 have z:∀i:Int,0<=i->i<l.length->∀k∈gt (gu g l) i,(gt v k).2.2=true->0<=(gt v k).2.1:=λi a c k o e=>m.nn ((qn hl a c).2 k o).1 ((qn hl a c).2 k o).2 e;have u:∀i:Int,0<=i->i<l.length->(gt v i).2.2=false->0<(gt (gu g l) i).length:=λi a c e=>ax.2 (m.ne hl (by omega) a c e);cases b
 .simp;refine jU ?_ ?_<;>intro h
  .refine fZ.e ((0,v):Int×List Kn) (λy=>[(1,gQ l),(2,.sl 1 ((gu g l).map fI)),(7,.fM 2 p 3 0 l.length),(8,.i n),(9,.fM 3 1 3 0 l.length),(10,.i y.1)]) (λy=>[.row 43 0 g.cells,.row 245 l.length (cl fK v0),.row 245 p (cl fK v),.row 245 1 (cl fK y.2)]) (λy=>0<=y.1/\y.1<=l.length/\y.2.length=l.length/\∀k:Int,0<=k->k<l.length->gt y.2 k=if k<y.1/\(gt v k).2.2=false then pg v (gt (gu g l) k) n else gt v k) (λy=>l.length-y.1.toNat) ?_ ?_
   .exact⟨by simp,by simp,n2,λk k0 k1=>by rw[if_neg (by dsimp only;omega)]⟩
   rintro⟨j,now⟩ ⟨j0,j1,j2,j3⟩;dsimp only at j0 j1 j2 j3 ⊢;simp;(with_reducible repeat' first|refine Xk ?_<;>try simp|refine Xs ?_ ?_<;>intro h<;>(try intro F)<;>(try simp[h])<;>try omega|refine Xg ?_|omega)
   .refine LJ.e (j+1,now) ?_;refine gI ⟨j2,λk k0 k1=>?_⟩;dsimp only;rw[j3 k k0 k1]
    by_cases e:k=j
    .subst e;rw[if_neg (by omega),if_neg (by simp[*])]
    .simp only[show k<j+1↔k<j by omega]
   .refine gj.r rfl rfl (V5 v _ n (by omega) (u j j0 ‹_› ‹_›) (D j j0 ‹_›) (G j j0 ‹_›) (z j j0 ‹_›)) (by simp[n2]) (by simp[flat,tb]) (by simp) ?_;simp;refine fQ ?_;have d:=L5 (f:=fK) now j (by omega) (pg v (gt (gu g l) j) n);rw[C7]at d;refine LJ.i (j+1,pt now j (pg v (gt (gu g l) j) n)) (by first|rfl|simp[<-d]) (by first|rfl|simp[<-d]) rfl rfl ?_;have L:=iH (l:=now) (n:=j) (v:=pg v (gt (gu g l) j) n) j0 (by omega);refine zY (λk k0 k1=>?_);dsimp only;rw[pq j0 (by omega) k0,j3 k k0 k1]
    by_cases e:k=j
    .subst e;rw[if_pos rfl,if_pos ⟨by omega,‹_›⟩]
    .rw[if_neg e];simp only[show k<j+1↔k<j by omega]
   .refine LJ.e (n+1,false,1,now) ?_;refine gI ⟨?_,λh=>by cases h⟩;refine m.step hg hl n0 j2 λk k0 k1=>?_;rw[j3 k k0 k1];simp only[show k<j by omega,true_and]
  .have t:n=l.length+1:=by omega
   subst t;refine fZ.e ((0,v,[]):Int×List Kn×List fO) (λy=>[(1,gQ l),(7,.fM 2 p 3 0 l.length),(11,.fM 3 y.2.2.length 2 0 y.2.2.length),(12,.i y.1)]) (λy=>[.row 43 0 g.cells,.row 245 l.length (cl fK v0),.row 245 p (cl fK y.2.1),.row 86 y.2.2.length (cl fS y.2.2)]) (λy=>0<=y.1/\y.1<=l.length/\y.2.1.length=l.length/\y.2.2.length=y.1.toNat/\(∀k:Int,0<=k->k<y.1->gt y.2.2 k=if (gt v k).2.2=true then((gt v k).1,(gt v k).2.1)else(2,0))/\(∀k:Int,y.1<=k->k<l.length->gt y.2.1 k=gt v k)) (λy=>l.length-y.1.toNat) ?_ ?_
   .exact⟨by simp,by simp,n2,by simp,λk k0 k1=>by dsimp only at k1;omega,λk k0 k1=>rfl⟩
   rintro⟨j,w,out⟩ ⟨j0,j1,j2,j3,j4,j5⟩;dsimp only at j0 j1 j2 j3 j4 j5 ⊢
   by_cases s:j<l.length
   .have d:=ab8 (l:=w) (n:=j) (by omega) 2 0;have C:∀v,(pt w j v).length=w.length:=λv=>iH j0 (by omega);have K:∀v,gt (pt w j v) j=v:=λv=>Da j0 (by omega);have H:=j5 j (by omega) s
    have A:∀(x:fO),((gt v j).2.2=true->x=((gt v j).1,(gt v j).2.1))->((gt v j).2.2=false->x=(2,0))->∀k:Int,0<=k->k<j+1->gt (out ++ [x]) k=if (gt v k).2.2=true then((gt v k).1,(gt v k).2.1)else(2,0):=λx J I k k0 k1=>by
     by_cases e:k=j
     .subst e;rw[aeW (by omega)]
      by_cases q:(gt v k).2.2=true
      .rw[if_pos q];exact J q
      .rw[if_neg q];exact I (by simpa using q)
     .rw[aeU (by omega) (by omega)];exact j4 k k0 (by omega)
    simp[s,d];refine abn d C K ?_ ?_<;>intro h
    .refine LJ.e (j+1,w,out ++ [((gt w j).1,(gt w j).2.1)]) ?_;rw[H]at *;refine⟨by dsimp only;omega,by dsimp only;omega,by dsimp only;omega,by dsimp only;omega,by simp;omega,A _ (λ_=>rfl) (λe=>by simp[*]at e),λk k0 k1=>j5 k (by dsimp only at k0;omega) k1⟩
    .refine LJ.e (j+1,pt w j (2,0,false),out ++ [(2,0)]) ?_;rw[H]at *;refine⟨by dsimp only;omega,by dsimp only;omega,by dsimp only;omega,by dsimp only;rw[C];omega,by simp;omega,A _ (λe=>by simp[*]at e) (λ_=>rfl),λk k0 k1=>?_⟩;dsimp only at k0 ⊢;rw[pq j0 (by omega) (by omega),if_neg (by omega)];exact j5 k (by omega) k1
   .simp[s];exact Ey.i out rfl rfl ⟨by omega,m.done hg hl (by omega) λk k0 k1=>j4 k k0 (by omega)⟩
 .obtain⟨rfl,rfl,rfl⟩:=B rfl;simp;(with_reducible repeat' first|refine Xk ?_<;>try simp|refine Xs ?_ ?_<;>intro h<;>(try intro F)<;>(try simp[h])<;>try omega|refine Xg ?_|omega)
  .refine fZ.e ((0,v):Int×List Kn) (λy=>[(1,gQ l),(2,.sl 1 ((gu g l).map fI)),(7,.fM 1 l.length 3 0 l.length),(8,.i 1),(9,.fM 2 1 3 0 l.length),(10,.i y.1)]) (λy=>[.row 43 0 g.cells,.row 245 l.length (cl fK v),.row 245 1 (cl fK y.2)]) (λy=>0<=y.1/\y.1<=l.length/\y.2.length=l.length/\∀k:Int,0<=k->k<l.length->gt y.2 k=if k<y.1/\(gt v k).2.2=false then pg v (gt (gu g l) k) 1 else gt v k) (λy=>l.length-y.1.toNat) ?_ ?_
   .exact⟨by simp,by simp,n2,λk k0 k1=>by rw[if_neg (by dsimp only;omega)]⟩
   rintro⟨j,now⟩ ⟨j0,j1,j2,j3⟩;dsimp only at j0 j1 j2 j3 ⊢;simp;(with_reducible repeat' first|refine Xk ?_<;>try simp|refine Xs ?_ ?_<;>intro h<;>(try intro F)<;>(try simp[h])<;>try omega|refine Xg ?_|omega)
   .refine LJ.e (j+1,now) ?_;refine gI ⟨j2,λk k0 k1=>?_⟩;dsimp only;rw[j3 k k0 k1]
    by_cases e:k=j
    .subst e;rw[if_neg (by omega),if_neg (by simp[*])]
    .simp only[show k<j+1↔k<j by omega]
   .refine gj.r rfl rfl (V5 v _ 1 (by omega) (u j j0 ‹_› ‹_›) (D j j0 ‹_›) (G j j0 ‹_›) (z j j0 ‹_›)) (by simp[n2]) (by simp[flat,tb]) (by simp) ?_;simp;refine fQ ?_;have d:=L5 (f:=fK) now j (by omega) (pg v (gt (gu g l) j) 1);rw[C7]at d;refine LJ.i (j+1,pt now j (pg v (gt (gu g l) j) 1)) (by first|rfl|simp[<-d]) (by first|rfl|simp[<-d]) rfl rfl ?_;have L:=iH (l:=now) (n:=j) (v:=pg v (gt (gu g l) j) 1) j0 (by omega);refine zY (λk k0 k1=>?_);dsimp only;rw[pq j0 (by omega) k0,j3 k k0 k1]
    by_cases e:k=j
    .subst e;rw[if_pos rfl,if_pos ⟨by omega,‹_›⟩]
    .rw[if_neg e];simp only[show k<j+1↔k<j by omega]
   .refine LJ.e (1+1,false,1,now) ?_;refine gI ⟨?_,λh=>by cases h⟩;refine m.step hg hl (by omega) j2 λk k0 k1=>?_;rw[j3 k k0 k1];simp only[show k<j by omega,true_and]
theorem aeh(g:fY)(hg:gN g)(l:List Pos)(hl:oP g l)(b:0<l.length):Wf T 25 [dG g,gQ l] [] (Ey (λx:List fO×List Int=>.agg [ie x.1,dI x.2,.i 0]) λx=>x.1.length=l.length/\∀k:Int,0<=k->k<l.length->kn (jM g l (gu g l)) x.1 k):=by refine Yg JT ?_;simp[JT];refine Yc (f37 g hg l hl) ?_;simp;refine Yq (aeq g hg l hl b) λv a=>?_;simp;refine Yq (f39 g hg l hl v a.1) λf c=>?_;simp;exact Ey.i (v,f) rfl rfl a
