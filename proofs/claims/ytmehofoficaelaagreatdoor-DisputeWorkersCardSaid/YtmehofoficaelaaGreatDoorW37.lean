/- Part 37 of DisputeWorkers. -/
import Derived.Test.YtmehofoficaelaaGreatDoorW36
set_option linter.all false
namespace Go.Proofs.YtmehofoficaelaaGreatDoor
open Go Go.AL Classical
set_option maxRecDepth 10000
set_option maxHeartbeats 8000000
def n9(n:Int):Nat->Int->List fZ
 | 0,_=>[]
 | k+1,a=>(a,a+(n-a+k) / (k+1))::n9 n k (a+(n-a+k) / (k+1))
theorem VC{n a:Int}{k:Nat}(h:((k+1:Nat):Int)<=n-a):1<=(n-a+k) / (k+1)/\(n-a+k) / (k+1)<=n-a-k:=by
 have b:(0:Int)<k+1:=by omega
 refine⟨?_,?_⟩
 .rw[Int.le_ediv_iff_mul_le b];omega
 .have:0<=(n-a-k-1)*(k:Int):=Int.mul_nonneg (by omega) (by omega);have e:(n-a-k+1)*((k:Int)+1)=(n-a-k-1)*k+2*k+(n-a-k+1):=by rw[Int.mul_add,Int.mul_one,show n-a-(k:Int)+1=(n-a-k-1)+2 by omega,Int.add_mul]
  have:=Int.ediv_lt_of_lt_mul b (show n-a+k<(n-a-k+1)*((k:Int)+1)by omega);omega
theorem zz{n:Int}:∀ {k:Nat} {a:Int},0<=a->(k:Int)<=n-a->∀p∈n9 n k a,0<=p.1/\p.1<p.2/\p.2<=n
 | 0,_,_,_,p,hp=>by cases hp
 | k+1,a,h0,h,p,hp=>by
  have b:=VC h;rcases av.1 hp with rfl|hp
  .dsimp only;omega
  .exact zz (by omega) (by omega) p hp
theorem Dw{n:Int}:∀ {k:Nat} {a:Int},(n9 n k a).length=k
 | 0,_=>rfl
 | k+1,_=>by rw[n9,aJ,Dw]
theorem ad1(n k:Int)(h0:0<n)(t:n<=4000)(k0:0<=k)(k9:k<=4000):Wf T 91 [.i n,.i k] [] (Is (.sl 2 ((n9 n (min k n).toNat 0).map fS))):=by
 by_cases h:k<1
 .have e:(min k n).toNat=0:=by omega
  rw[e];refine Yg C2 ?_;simp[C2,h];rfl
 .have n1:¬n<1:=by omega
  have n2:¬ 4000<n:=by omega
  obtain⟨K,i⟩:∃K:Nat,min k n=K:=⟨(min k n).toNat,by omega⟩;rw[i,bt];obtain⟨R,d⟩:∃R,n9 n K 0=R:=⟨_,rfl⟩;rw[d];refine Yg C2 ?_;simp[C2,h,n1,n2,i];refine gj.e (((0,K),[]):(Int×Nat)×List fZ) (λy=>[(0,.i n),(5,.fY 0 y.2.length 2 0 y.2.length),(6,.i y.1.1),(7,.i y.1.2)]) (λy=>[.row 204 y.2.length (cl fS y.2)]) (λy=>((0<=y.1.1/\y.1.1<=n)/\(y.1.2:Int)<=n-y.1.1)/\y.2++n9 n y.1.2 y.1.1=R) (λy=>y.1.2) ?_ ?_
  .simp[d];omega
  rintro⟨⟨a,m⟩,A⟩ ⟨⟨⟨r,p⟩,g⟩,b⟩;dsimp only at r p g b ⊢
  cases m with
  | zero=>
   have f:A=R:=by simpa[n9]using b
   subst f;clear d;simp
  | succ m=>
   have o:=VC g
   have c:uq (n-a+(m+1)-1) (m+1)=(n-a+m) / (m+1):=by rw[show n-a+((m:Int)+1)-1=n-a+m by omega,uu (by omega) (by omega) (by omega)]
   rw[n9]at b;obtain⟨q,j⟩:∃q,(n-a+(m:Int)) / (m+1)=q:=⟨_,rfl⟩;rw[j]at o c b;have l:(A++(a,a+q)::n9 n m (a+q)).length=R.length:=by rw[b]
   have s:R.length=K:=by rw[<-d,Dw]
   simp at l;simp;refine jP c ?_;refine LJ.i ((a+q,m),A ++ [(a,a+q)]) (by first|rfl|simp[c]) (by first|rfl|simp[c]) rfl rfl ?_;dsimp only;exact⟨by omega,⟨iy,by omega⟩,by simpa using b⟩
@[irreducible] noncomputable def o8(w:Wk)(who:Int)(p:fZ)(v:List fZ):Cw:=⟨⟨who,p.1,p.2,mA w v p.1 (p.2-p.1).toNat,ki (mA w v p.1 (p.2-p.1).toNat)⟩,false⟩
noncomputable def ry(ws:List Wk)(v P:List fZ)(t:Int):Nat->List Cw
 | 0=>[]
 | n+1=>ry ws v P t n++(if yX (gt ws n) t=true then [o8 (gt ws n) n (gt P (n % P.length)) v]else [])
theorem OS{ws:List Wk}{v P:List fZ}{t:Int}:∀n,(ry ws v P t n).length<=n
 | 0=>Nat.le_refl 0
 | n+1=>by
  have:=OS (ws:=ws) (v:=v) (P:=P) (t:=t) n;rw[ry,ak];split
  .simp;omega
  .simp;omega
theorem adN(ws:List Wk)(v:List fZ)(k t:Int)(M:∀w∈ws,w.ok)(U:ws.length<=8)(S:0<v.length)(N:v.length<=64)(k0:0<=k)(k9:k<=4000)
  {R:List Cw} (m:(if k<1 then []else ry ws v (n9 v.length (min k v.length).toNat 0) t ws.length)=R) :
  Wf T 44 [.sl 5 (ws.map oP),gY v,.i k,.i t] [] (λd H=>d = .fY 0 R.length 36 0 R.length/\H = [.row 72 R.length (cl gR R)]):=by
 have G:=ad1 v.length k (by omega) (by omega) k0 k9;have z:=zz (n:=v.length) (k:=(min k v.length).toNat) (a:=0) (by omega) (by omega);have K:=Dw (n:=v.length) (k:=(min k v.length).toNat) (a:=0);obtain⟨P,hP⟩:∃P,n9 v.length (min k v.length).toNat 0=P:=⟨_,rfl⟩;rw[hP]at G z K m;clear hP;refine Yg Js ?_;simp[Js];refine Yc (G) ?_;simp;refine gd ?_;refine gj.e ((0,[]):Int×List Cw) (λy=>[(0,.sl 5 (ws.map oP)),(1,gY v),(3,.i t),(9,.sl 2 (P.map fS)),(10,.fY 0 y.2.length 36 0 y.2.length),(11,.i y.1)]) (λy=>[.row 72 y.2.length (cl gR y.2)]) (λy=>((0<=y.1/\y.1<=ws.length)/\(P = []->y.1=0))/\y.2=ry ws v P t y.1.toNat) (λy=>(ws.length-y.1).toNat) ?_ ?_
 .simp[ry]
 rintro⟨i,A⟩ ⟨⟨⟨i0,L⟩,C⟩,o⟩;dsimp only at i0 L C o ⊢
 have Q:A.length<=8:=by have:=OS (ws:=ws) (v:=v) (P:=P) (t:=t) i.toNat;rw[o];omega
 by_cases l:P = []
 .have O:=C l;subst O l
  have s:A=R:=by rw[<-m,if_pos (by simp at K;omega)];exact o
  subst s;clear m
  by_cases hi:(0:Int)<ws.length
  all_goals
   simp[hi];exact mK
 .have u:0<P.length:=ax.2 l
  by_cases hi:i<ws.length
  .have j:gA i P.length=i % P.length:=jH i0;have g:0<=i % (P.length:Int):=bL _ (by omega);have f:i % (P.length:Int)<P.length:=bE _ (by omega);have r:=z _ (gy g f);have c:=ad2 (gt ws i) (M _ (gy i0 hi)) i t (gt P (i % P.length)).1 (gt P (i % P.length)).2 v r.1 r.2.1 r.2.2 N ⟨i0,by omega⟩;rw[show(gt ws i).cells = [.i (gt ws i).kind,.i (gt ws i).pos,.i (gt ws i).n,.i (gt ws i).lr,.i (gt ws i).lk]from rfl]at c
   have b:ry ws v P t (i+1).toNat=A++(if yX (gt ws i) t=true then [o8 (gt ws i) i (gt P (i % P.length)) v]else []):=by rw[show(i+1).toNat=i.toNat+1 by omega,ry,<-o,show((i.toNat:Nat):Int)=i by omega]
   by_cases E:yX (gt ws i) t=true
   .rw[if_pos E]at c b;rw[show(⟨⟨i,(gt P (i % P.length)).1,(gt P (i % P.length)).2,mA (gt ws i) v (gt P (i % P.length)).1 ((gt P (i % P.length)).2-(gt P (i % P.length)).1).toNat,ki (mA (gt ws i) v (gt P (i % P.length)).1 ((gt P (i % P.length)).2-(gt P (i % P.length)).1).toNat)⟩,false⟩:Cw)=o8 (gt ws i) i (gt P (i % P.length)) v by unfold o8;rfl]at c;obtain⟨x,F⟩:∃x,o8 (gt ws i) i (gt P (i % P.length)) v=x:=⟨_,rfl⟩;rw[F]at c b;clear F;rw[show gR x=cl gR [x]from(iQ _).symm]at c;have q:(cl gR [x]).length=36:=by rw[qJ];rfl
    have p:(cl gR [x]).take 36=cl gR [x]:=af (by omega);have Xa:(cl gR [x] ++ [D.b true])[36]? = some (.b true):=by rw[ai (by omega),q];rfl
    have Xb:(cl gR [x] ++ [D.b true]).take 37=cl gR [x] ++ [.b true]:=af (by simp[q]);simp[hi,u,j,g,f,i0,rP];(with_reducible repeat' first|refine Xk ?_<;>try simp[j,g,f,rP]|refine Xs ?_ ?_<;>intro h<;>(try intro V)<;>(try simp[h,j,g,f,rP])<;>try omega|refine Xg ?_|omega);refine je.c rfl rfl c (by simp) (by simp[Vk,MK]) ?_;simp[q,p,Xb,Xa];refine FK q p Xb Xa ?_;refine LJ.i (i+1,A ++ [x]) (by first|rfl|simp[p]) (by first|rfl|simp[p]) rfl rfl ?_;exact⟨by dsimp only;omega,⟨iy,λe=>absurd e l⟩,b.symm⟩
   .rw[if_neg E]at c b;rw[az]at b;have B:(cl fU (zs 32)).length=32:=by simp
    have J:(cl fU (zs 32) ++ [D.b false])[32]? = some (.b false):=by rw[ai (by omega),B];rfl
    have I:(cl fU (zs 32) ++ [D.b false]).take 33=cl fU (zs 32) ++ [.b false]:=af (by simp[B]);simp[hi,u,j,g,f,i0,rP];refine qz j g f ?_;refine je.c rfl rfl c (by simp) (by simp[Vk,MK]) ?_;simp[J,I];refine lh J I ?_;refine LJ.e (i+1,A) ?_;exact⟨by dsimp only;omega,⟨iy,λe=>absurd e l⟩,b.symm⟩
  .have s:A=R:=by rw[<-m,if_neg (by omega),o,show i.toNat=ws.length by omega]
   subst s;clear m;simp[hi]
theorem ac3{r k s t:Int}(k0:0<=k)(t0:0<=t)(t1:t<=k)(h:r=(k+1)*s+t):(r+k) / (k+1)=s+(if 0<t then 1 else 0):=by
 have e:r+k=(t+k)+(k+1)*s:=by omega
 rw[e,fO _ _ (by omega)]
 by_cases a:0<t
 .rw[if_pos a,show t+k=(t-1)+(k+1)*1 by omega,fO _ _ (by omega),ec (by omega) (by omega)];omega
 .rw[if_neg a,show t+k=k by omega,ec k0 (by omega)];omega
theorem adS(n k:Int)(h0:0<n)(Q:n<=4000)(k0:1<=k)(k9:k<=4000):Wf T 61 [.i n,.i k] [] (Is (.sl 2 ((n9 n (min k n).toNat 0).map fS))):=by
 obtain⟨K,w⟩:∃K:Nat,min n k=K:=⟨(min n k).toNat,by omega⟩;have v:(min k n).toNat=K:=by omega
 have M:0<K:=by omega
 have p:uq n K=n / K:=uu (by omega) (by omega) (by omega);have o:gA n K=n % K:=jH (by omega);have z:=Int.mul_ediv_add_emod n K;have E:=bL n (show(K:Int)≠0 by omega);have F:=bE n (show(0:Int)<K by omega);have x:0<=n / (K:Int):=Int.ediv_nonneg (by omega) (by omega);have G:n / (K:Int)<=n:=Int.ediv_le_self _ (by omega);obtain⟨s,hs⟩:∃s,n / (K:Int)=s:=⟨_,rfl⟩;obtain⟨m,J⟩:∃m,n % (K:Int)=m:=⟨_,rfl⟩;rw[hs]at p z x G;rw[J]at o z E F;have n1:¬k<1:=by omega
 have n2:¬n<1:=by omega
 have q:¬ 4000<n:=by omega
 rw[v];have D:(n9 n K 0).length=K:=Dw;obtain⟨R,B⟩:∃R,n9 n K 0=R:=⟨_,rfl⟩;rw[B]at D ⊢;refine Yg Jv ?_;simp[Jv,n1,n2,q,w,p,o];(with_reducible repeat' first|refine Xk ?_<;>try simp[n1,n2,q,w,p,o]|refine Xs ?_ ?_<;>intro h<;>(try intro j)<;>(try simp[h,n1,n2,q,w,p,o])<;>try omega|refine Xg ?_|omega);refine gj.e ((0,0,[]):Nat×Int×List fZ) (λy=>[(5,.i s),(6,.i m),(7,if y.2.2 = []then .gg else .fY 0 (y.2.2.length-1) 2 0 y.2.2.length),(8,.i y.2.1),(30,.i K),(31,.i (y.1:Nat))]) (λy=>(if y.2.2 = []then []else [.row 204 (y.2.2.length-1) (cl fS y.2.2)])) (λy=>(y.1<=K/\0<=y.2.1)/\y.2.2++n9 n (K-y.1) y.2.1=R/\y.2.2.length=y.1/\n-y.2.1=((K:Int)-y.1)*s+max (m-y.1) 0) (λy=>K-y.1) ?_ ?_
 .refine⟨⟨by simp,by simp⟩,by simpa using B,rfl,?_⟩;simp;omega
 rintro⟨i,a,A⟩ ⟨⟨hi,N⟩,d,hl,u⟩;dsimp only at hi N d hl u ⊢
 by_cases f:i<K
 .obtain⟨g,H⟩:∃g:Nat,K-i=g+1:=⟨K-i-1,by omega⟩;have L:=ac3 (r:=n-a) (k:=g) (s:=s) (t:=max (m-i) 0) (by omega) (by omega) (by omega) (by rw[u,show(K:Int)-i=g+1 by omega]);rw[H,n9,L]at d
  have C:((K:Int)-i)*s=((K:Int)-(i+1:Nat))*s+s:=by rw[show(K:Int)-i=((K:Int)-(i+1:Nat))+1 by omega,Int.add_mul,Int.one_mul]
  have O:0<=((K:Int)-(i+1:Nat))*s:=Int.mul_nonneg (by omega) x;obtain⟨P,hP⟩:∃P,((K:Int)-(i+1:Nat))*s=P:=⟨_,rfl⟩;rw[hP]at C O;rw[C]at u;have l:K-(i+1)=g:=by omega
  by_cases b:A = []
  .subst b;have U:i=0:=by simpa using hl.symm
   by_cases c:(i:Int)<m
   .rw[if_pos (by omega)]at d;simp[f,c];(with_reducible repeat' first|refine Xk ?_<;>try simp[f,c]|refine Xs ?_ ?_<;>intro h<;>(try intro j)<;>(try simp[h,f,c])<;>try omega|refine Xg ?_|omega);exact LJ.i (i+1,a+s+1,[(a,a+s+1)]) (by simp) (by simp[iQ]) rfl rfl ⟨by dsimp only;omega,iy,by dsimp only;rw[l,<-d];simp[Int.add_assoc],by simp[hl],by dsimp only;rw[hP];omega⟩
   .rw[if_neg (by omega)]at d;simp[f,c];(with_reducible repeat' first|refine Xk ?_<;>try simp[f,c]|refine Xs ?_ ?_<;>intro h<;>(try intro j)<;>(try simp[h,f,c])<;>try omega|refine Xg ?_|omega);exact LJ.i (i+1,a+s,[(a,a+s)]) (by simp) (by simp[iQ]) rfl rfl ⟨by dsimp only;omega,iy,by dsimp only;rw[l,<-d];simp[Int.add_assoc],by simp[hl],by dsimp only;rw[hP];omega⟩
  .have S:0<A.length:=ax.2 b;rw[if_neg b,if_neg b]
   by_cases c:(i:Int)<m
   .rw[if_pos (by omega)]at d;simp[f,c,b];(with_reducible repeat' first|refine Xk ?_<;>try simp[f,c,b]|refine Xs ?_ ?_<;>intro h<;>(try intro j)<;>(try simp[h,f,c,b])<;>try omega|refine Xg ?_|omega);exact LJ.i (i+1,a+s+1,A ++ [(a,a+s+1)]) (by simp[show A.length-1+1=A.length by omega]) (by simp[show A.length-1+1=A.length by omega]) rfl rfl ⟨by dsimp only;omega,iy,by dsimp only;rw[l,<-d];simp[Int.add_assoc],by simp[hl],by dsimp only;rw[hP];omega⟩
   .rw[if_neg (by omega)]at d;simp[f,c,b];(with_reducible repeat' first|refine Xk ?_<;>try simp[f,c,b]|refine Xs ?_ ?_<;>intro h<;>(try intro j)<;>(try simp[h,f,c,b])<;>try omega|refine Xg ?_|omega);exact LJ.i (i+1,a+s,A ++ [(a,a+s)]) (by simp[show A.length-1+1=A.length by omega]) (by simp[show A.length-1+1=A.length by omega]) rfl rfl ⟨by dsimp only;omega,iy,by dsimp only;rw[l,<-d];simp[Int.add_assoc],by simp[hl],by dsimp only;rw[hP];omega⟩
 .have I:i=K:=by omega
  subst I;rw[bS,n9,az]at d;have b:A≠[]:=λe=>by rw[e]at hl;simp at hl;omega
  rw[if_neg b,if_neg b];simp[b];(with_reducible repeat' first|refine Xk ?_<;>try simp[b]|refine Xs ?_ ?_<;>intro h<;>(try intro j)<;>(try simp[h,b])<;>try omega|refine Xg ?_|omega);rw[d]
set_option maxHeartbeats 4000000
def jn(n:Int)(c:gK):Bool:=snd c&&decide (c.hi<=n)
noncomputable def tR(V:List fZ)(c:gK):Bool:=jn V.length c&&decide (∀i:Int,c.lo<=i->i<c.hi->kI c i=gt V i)
theorem IY{c:gK}(h:snd c=true):0<=c.lo/\c.lo<=c.hi/\(c.es.length:Int)=c.hi-c.lo:=by unfold snd at h;have:=of_decide_eq_true h;exact⟨this.1,this.2.1,this.2.2.1⟩
theorem adW(x:Cw)(a:x.ok)(i:Int):Wf T 68 [.agg x.cells,.i i] [] (Is (.b (jK x.c i))):=by
 obtain⟨⟨who,lo,hi,es,root⟩,em⟩:=x;have b:=a.root;unfold Cw.cells jK;dsimp only at *
 by_cases h1:lo<=i
 .refine Yg C0 ?_;simp[C0,h1]
 .refine Yg C0 ?_;simp[C0,h1]
theorem adX(x:Cw)(d:x.ok)(n:Int):Wf T 69 [.agg x.cells,.i n] [] (Is (.b (jn n x.c))):=by
 have c:=aed x d;have a:=d.root;have g:(x.cells).length=36:=by unfold Cw.cells;simp[a]
 have f:x.cells.take 36=x.cells:=af (by omega);unfold jn;obtain⟨b,e⟩:∃b,snd x.c=b:=⟨_,rfl⟩;rw[e]at c ⊢;obtain⟨⟨who,lo,hi,es,root⟩,em⟩:=x;unfold Cw.cells at *;dsimp only at *;simp only[bU,bq]at c;refine Yg Jz ?_;simp[Jz,a];refine Yc (c) ?_;simp;cases b
 .exact mK
 .exact mK
theorem adH(x:Cw)(a:x.ok)(V:List fZ)(v:V.length<=64):Wf T 22 [.agg x.cells,gY V] [] (Is (.b (tR V x.c))):=by
 have c:=adX x a V.length;have g:=a.root;have p:=a.em;have r:=a.lo;have z:=a.hi;unfold tR
 have k:jn V.length x.c=true->0<=x.c.lo/\x.c.lo<=x.c.hi/\(x.c.es.length:Int)=x.c.hi-x.c.lo/\x.c.hi<=V.length:=λh=>by unfold jn at h;rw[Bool.and_eq_true,decide_eq_true_iff]at h;have:=IY h.1;exact⟨this.1,this.2.1,this.2.2,h.2⟩
 have q:∀i,kI x.c i=gt x.c.es (i-x.c.lo):=λ_=>rfl;obtain⟨b,n⟩:∃b,jn V.length x.c=b:=⟨_,rfl⟩;rw[n]at c k ⊢;simp only[q];obtain⟨⟨who,lo,hi,es,root⟩,em⟩:=x;unfold Cw.cells at *;dsimp only at *;simp only[bU,bq]at c;cases b
 .refine Yg CX ?_;simp[CX,g];refine Yc (c) ?_;simp
 .obtain⟨u,t,l2,s⟩:=k rfl;rw[ei];refine Yg CX ?_;simp[CX,g];refine Yc (c) ?_;simp;refine gj.e lo (λy=>[(1,gY V),(2,.ptr 0 0 0),(5,.i y)]) (λy=>[.row 72 0 (D.i who::D.i lo::D.i hi::dE em es::cl fU root)]) (λy=>(lo<=y/\y<=hi)/\∀j:Int,lo<=j->j<y->gt es (j-lo)=gt V j) (λy=>(hi-y).toNat) ?_ ?_
  .exact⟨by simp;omega,λj j0 j1=>by omega⟩
  rintro i ⟨⟨i0,m⟩,f⟩;dsimp only at i0 m f ⊢
  by_cases d:i<hi
  .have o:em=false:=by
    cases em
    .rfl
    .have:=p rfl;rw[this]at l2;simp at l2;omega
   subst o
   have hP:(∀j:Int,lo<=j->j<hi->gt es (j-lo)=gt V j)->(gt es (i-lo)).1=(gt V i).1/\(gt es (i-lo)).2=(gt V i).2:=λh=>by rw[h i i0 d];exact⟨rfl,rfl⟩
   simp[d,dE];(with_reducible repeat' first|refine Xk ?_<;>try simp|refine Xs ?_ ?_<;>intro h<;>(try intro w)<;>(try simp[h])<;>try omega|refine Xg ?_|omega)
   .refine LJ.e (i+1) ?_;refine⟨by omega,iy,λj j0 j1=>?_⟩
    by_cases e:j=i
    .rw[e];exact cL (by assumption) (by assumption)
    .exact f j j0 (by omega)
   .exact⟨i,i0,d,λe=>h ⟨by rw[e],by rw[e]⟩⟩
  .have l:i=hi:=by omega
   subst l;simp;exact f
def Gi(L:List Cw)(V:List fZ):Prop:=∀i:Int,0<=i->i<V.length->∃x∈L,jK x.c i=true/\tR V x.c=true
theorem adE(L:List Cw)(A:∀x∈L,x.ok)(C:L.length<=4000000000)(V:List fZ)(B:V.length<=64):Wf T 21 [.sl 36 (L.map gR),gY V] [] (Is (.b (decide (Gi L V)))):=by
 refine Yg CW ?_;simp[CW];refine gj.e (0:Int) (λy=>[(0,.sl 36 (L.map gR)),(1,gY V),(5,.i y)]) (λy=>[]) (λy=>(0<=y/\y<=V.length)/\∀i:Int,0<=i->i<y->∃x∈L,jK x.c i=true/\tR V x.c=true) (λy=>(V.length-y).toNat) ?_ ?_
 .exact⟨by simp,λj j0 j1=>by omega⟩
 rintro i ⟨⟨i0,v⟩,n⟩;dsimp only at i0 v n ⊢
 by_cases hi:i<V.length
 .simp[hi];refine gj.e ((0,false):Int×Bool) (λy=>[(0,.sl 36 (L.map gR)),(1,gY V),(5,.i i),(6,.b y.2),(7,.i y.1)]) (λy=>[]) (λy=>(0<=y.1/\y.1<=L.length)/\(y.2=true↔∃x∈L.take y.1.toNat,jK x.c i=true/\tR V x.c=true)) (λy=>(L.length-y.1).toNat) ?_ ?_
  .simp
  rintro⟨k,b⟩ ⟨⟨k0,k1⟩,d⟩;dsimp only at k0 k1 d ⊢
  by_cases m:k<L.length
  .have e:=E8 (l:=L) k0 m;have a:=A _ (gy k0 m);have o:=adW (gt L k) a i;have c2:=adH (gt L k) a V B
   have c:(∃x∈L.take (k+1).toNat,jK x.c i=true/\tR V x.c=true)↔(b||(jK (gt L k).c i&&tR V (gt L k).c))=true:=by
    rw[e,bQ,d,Bool.and_eq_true];constructor
    .rintro⟨x,a,h⟩;rcases List.mem_append.1 a with a|a
     .exact .inl ⟨x,a,h⟩
     .rw[List.mem_singleton]at a;subst a;exact .inr h
    .rintro(⟨x,a,h⟩|h)
     .exact⟨x,bA _ a,h⟩
     .exact⟨_,bG _ (List.mem_singleton.2 rfl),h⟩
   rw[<-Qo a]at o c2;have g:(gR (gt L k)).length=36:=Fl.len _;obtain⟨p,z⟩:∃p,jK (gt L k).c i=p:=⟨_,rfl⟩;obtain⟨q,w⟩:∃q,tR V (gt L k).c=q:=⟨_,rfl⟩;rw[z]at o c;rw[w]at c2 c;have r:gF (gR (gt L k))=true:=Fl.cl _;have f:(gR (gt L k)).take 36=gR (gt L k):=af (by omega);cases b
   .simp[m];refine lh g f ?_;simp[g,f];refine gx.c rfl rfl o (by simp[r]) (by simp) ?_;cases p
    .simp;refine gd ?_;refine LJ.e (k+1,false) ?_;exact⟨by omega,iy,by rw[c];simp⟩
    .simp;refine lh g f ?_;simp[g,f];refine gx.c rfl rfl c2 (by simp[r]) (by simp) ?_;simp;refine gd ?_;refine LJ.e (k+1,q) ?_;exact⟨by omega,iy,by rw[c];simp⟩
   .simp[m];refine gd ?_;refine LJ.e (k+1,true) ?_;exact⟨by omega,iy,by rw[c];simp⟩
  .have s:k=L.length:=by omega
   subst s;rw[af (by omega)]at d;cases b
   .simp;refine gd ?_
    have t:¬Gi L V:=λh=>by obtain⟨x,a⟩:=h i i0 hi;have:=d.2 ⟨x,a⟩;cases this
    exact t
   .simp;refine gd ?_;refine LJ.e (i+1) ?_;refine⟨by omega,iy,λj j0 j1=>?_⟩
    by_cases e:j=i
    .rw[e];exact d.1 rfl
    .exact n j j0 (by omega)
 .have u:i=V.length:=by omega
  subst u;simp;exact n
structure ISl(l:List Int)(d:D):Prop where
 cl:closed d=true
 len:∀H,mX .slice d H=some (.i l.length)
 idx:∀(n:Int) (k:IntKind) (P:D->Prop),oA (mH 1 d (.val (.int k n))) P .mk=((0<=n/\n<l.length)/\P (.gu [.i (gt l n)]))
structure xN(l:List fZ)(d:D):Prop where
 cl:closed d=true
 len:∀H,mX .slice d H=some (.i l.length)
 idx:∀(n:Int) (k:IntKind) (P:D->Prop),oA (mH 2 d (.val (.int k n))) P .mk=((0<=n/\n<l.length)/\P (.gu [.i (gt l n).1,.i (gt l n).2]))
theorem xN.I(l:List fZ):xN l (gY l):=⟨by simp,λ_=>by simp,λn k P=>by simp⟩
theorem xN.e:xN [] .gg:=⟨rfl,λ_=>by simp,λn k P=>by
 have:mH 2 .gg (.val (.int k n))=none:=rfl;rw[this];simp
 omega⟩
theorem adY{a b:List fZ}{x y:D}(l:xN a x)(k:xN b y)(t:a.length<=4000000000):Wf T 79 [x,y] [] (Is (.b (decide (a=b)))):=by
 have c:=l.len;have d:=k.len;have g:=l.idx;have f:=k.idx;have o:=l.cl;have n:=k.cl
 by_cases h:a.length=b.length
 .refine Yg C1 ?_;simp[C1,c,d,h];refine qz c d h ?_;refine gj.e (0:Int) (λi=>[(0,x),(1,y),(5,.i i)]) (λi=>[]) (λi=>(0<=i/\i<=a.length)/\∀j:Int,0<=j->j<i->gt a j=gt b j) (λi=>(a.length-i).toNat) ?_ ?_
  .exact⟨by simp,λj j0 j1=>by omega⟩
  rintro i ⟨⟨i0,r⟩,m⟩;dsimp only at i0 r m ⊢
  by_cases hi:i<a.length
  .simp[c,d,g,f,o,n,hi];(with_reducible repeat' first|refine Xk ?_<;>try simp[c,d,g,f,o,n]|refine Xs ?_ ?_<;>intro h<;>(try intro u)<;>(try simp[h,c,d,g,f,o,n])<;>try omega|refine Xg ?_|omega)
   .refine LJ.e (i+1) ?_;refine⟨by omega,iy,λj j0 j1=>?_⟩
    by_cases e:j=i
    .rw[e];exact cL (by assumption) (by assumption)
    .exact m j j0 (by omega)
   .rintro rfl;exact h ⟨rfl,rfl⟩
  .have q:i=a.length:=by omega
   subst q;simp[c];refine br h λj j0 j1=>?_;have:=m j (by omega) (by omega);rw[jg (by omega) (by omega),jg (by omega) (by omega)]at this;exact this
 .have p:¬a=b:=λe=>h (by rw[e]);have s:¬(a.length:Int)=b.length:=by omega
  refine Yg C1 ?_;simp[C1,c,d,h,s,p]
set_option maxHeartbeats 8000000
theorem ac6{em:Bool}{es:List fZ}(h:em=true->es = []):xN es (dE em es):=by
 cases em with
 | true=>rw[h rfl];exact xN.e
 | false=>exact xN.I es
theorem ad0(x:Cw)(e:x.ok):Wf T 90 [.agg x.cells,.agg x.cells] [] (Is (.b true)):=by have g:=e.root;have f:=ac6 e.em;have k:=e.es;obtain⟨⟨who,lo,hi,es,root⟩,em⟩:=x;unfold Cw.cells;dsimp only at *;have c:=adY f f (by omega);rw[decide_eq_true rfl]at c;have b:=f.cl;obtain⟨E,i⟩:∃E,dE em es=E:=⟨_,rfl⟩;rw[i]at c b ⊢;have d:root.take 32=root:=af (by omega);have a:=MD 32 root root g g;rw[show List.replicate 32 mB.int=Mk from rfl,Px]at a;refine Yg JD ?_;simp[JD,b,d];(with_reducible repeat' first|refine Xk ?_<;>try simp[b,d,a]|refine Xs ?_ ?_<;>intro h<;>(try intro j)<;>(try simp[h,b,d,a])<;>try omega|refine Xg ?_|omega);simp[d,a];(with_reducible repeat' first|refine Xk ?_<;>try simp[b,d,a]|refine Xs ?_ ?_<;>intro h<;>(try intro j)<;>(try simp[h,b,d,a])<;>try omega|refine Xg ?_|omega);refine gx.c rfl rfl c (by simp[b]) (by simp) ?_;simp[b,d,a]
def xY(R:List Cw):D:=if R = []then .gg else .sl 36 (R.map gR)
theorem adM(R:List Cw)(k:∀x∈R,x.ok)(m:R.length<=100000):Wf T 43 [xY R,.sl 36 (R.map gR)] [] (Is (.b true)):=by
 by_cases d:R = []
 .subst d;have:xY [] = .gg:=rfl;rw[this];refine Yg CZ ?_;simp[CZ];refine gj.e (0:Int) (λy=>[(0,.gg),(1,.sl 36 []),(5,.i y)]) (λy=>[]) (λy=>y=0) (λy=>0) ?_ ?_
  .simp
  rintro y rfl;simp
 .have:xY R = .sl 36 (R.map gR):=if_neg d;rw[this];refine Yg CZ ?_;simp[CZ];refine gj.e (0:Int) (λy=>[(0,.sl 36 (R.map gR)),(1,.sl 36 (R.map gR)),(5,.i y)]) (λy=>[]) (λy=>0<=y/\y<=R.length) (λy=>(R.length-y).toNat) ?_ ?_
  .simp
  rintro i ⟨i0,j⟩;dsimp only at i0 j ⊢
  by_cases hi:i<R.length
  .have e:=k _ (gy i0 hi);have c:=ad0 (gt R i) e;rw[<-Qo e]at c;have b:(gR (gt R i)).length=36:=Fl.len _;have a:(gR (gt R i)).take 36=gR (gt R i):=af (by omega);have f:gF (gR (gt R i))=true:=Fl.cl _;simp[hi,i0,b,a];(with_reducible repeat' first|refine Xk ?_<;>try simp[hi,i0,b,a]|refine Xs ?_ ?_<;>intro h<;>(try intro l)<;>(try simp[h,hi,i0,b,a])<;>try omega|refine Xg ?_|omega);refine je.c rfl rfl c (by simp[f]) (by simp) ?_;simp;(with_reducible repeat' first|refine Xk ?_<;>try simp|refine Xs ?_ ?_<;>intro h<;>(try intro l)<;>(try simp[h])<;>try omega|refine Xg ?_|omega);refine LJ.e (i+1) ?_;omega
  .have g:i=R.length:=by omega
   subst g;simp
def wj(m:Int)(r:fZ):Int:=if r.1≠2/\(m<0\/r.2<m)then r.2 else m
def xn(l:List fZ):Int:=l.foldl wj (-1)
theorem aho(l:List fZ)(r:fZ):xn (l ++ [r])=wj (xn l) r:=by unfold xn;rw[List.foldl_append];rfl
theorem dd(a b:Int)(q:fZ):(!decide (a=q.1) || !decide (b=q.2)) = !decide ((a,b)=q):=by obtain⟨x,y⟩:=q;rw[<-Bool.not_and,<-dJ];congr 1;exact decide_eq_decide.2 (by simp)
def Cw.full(x:Cw):Prop:=x.ok/\(x.c.lo<x.c.hi->(x.c.es.length:Int)=x.c.hi-x.c.lo)
theorem Cw.WT{x:Cw}(h:x.full){i:Int}(a:jK x.c i=true):x.em=false/\x.c.lo<=i/\i-x.c.lo<x.c.es.length:=by
 unfold jK at a;rw[decide_eq_true_iff]at a;have b:=h.2 (by omega);refine⟨?_,a.1,by omega⟩
 cases e:x.em with
 | false=>rfl
 | true=>
  have:=h.1.em e;rw[this]at b;simp at b;omega
def cs(L:List Cw):List gK:=L.map Cw.c
def kf(p:gK->Bool):List gK->Nat->List Int
 | _,0=>[]
 | cl,n+1=>if p (gt cl (n:Int))=true then kf p cl n ++ [(n:Int)]else kf p cl n
end Go.Proofs.YtmehofoficaelaaGreatDoor
namespace Go.Proofs.YtmehofoficaelaaGreatDoor
open Go Go.AL Classical
def idx(p:gK->Bool)(cl:List gK):List Int:=(upto cl.length).filter λk=>p (gt cl k)
theorem Ce{p:gK->Bool}{cl:List gK}{k:Int}:k∈idx p cl↔(0<=k/\k<cl.length)/\p (gt cl k)=true:=by unfold idx;rw[aN,jc]
theorem yA{p:gK->Bool}{cl:List gK}:idx p cl≠[]↔∃c∈cl,p c=true:=by
 constructor
 .intro h;obtain⟨k,a⟩:=cI _ h;rw[Ce]at a;exact⟨_,gy a.1.1 a.1.2,a.2⟩
 .rintro⟨c,d,b⟩ h;obtain⟨k,k0,k1,rfl⟩:=wm.1 d;have:k∈idx p cl:=Ce.2 ⟨⟨k0,k1⟩,b⟩;rw[h]at this;cases this
inductive Jd where
 | v (a:Int) (l:List Int)
 | none
 | A6
 deriving DecidableEq
def FT(cl:List gK)(a i:Int):Int:=if mM (sd cl i)=true/\(a<0\/me (sd cl i)<me (sd cl a))then i else a
def lj(cl:List gK)(n:Nat):Int:=(upto n).foldl (FT cl) (-1)
noncomputable def nh(A:mg)(n:Nat)(ad:gK->Bool)(cl:List gK):Jd:=
 if idx (λc => !ad c) cl≠[]then .v (-1) (idx (λc => !ad c) cl)
 else if∃i∈upto n,sd cl i = []then .A6
 else match (upto n).find? λi=>decide (idx (λc=>jK c i && !lC (kI c i)) cl≠[])with
  | some i=>.v i (idx (λc=>jK c i && !lC (kI c i)) cl)
  | Option.none=>if lj cl n<0 then .none else .v (lj cl n) (idx (rF A cl (lj cl n)) cl)
theorem Jb(n:Nat):upto (n+1)=upto n ++ [(n:Int)]:=by simp[upto,List.range_succ]
theorem FR(cl:List gK):∀n:Nat,(lj cl n = -1/\∀j:Int,0<=j->j<n->mM (sd cl j)=false) \/
  ((0<=lj cl n/\lj cl n<n)/\mM (sd cl (lj cl n))=true/\∀j:Int,0<=j->j<n->mM (sd cl j)=true->me (sd cl (lj cl n))<=me (sd cl j))
 | 0=>.inl ⟨rfl,λj h0 h1=>by omega⟩
 | n+1=>by
  have e:lj cl (n+1)=FT cl (lj cl n) n:=by unfold lj;rw[Jb,List.foldl_append];rfl
  rw[e];generalize c:lj cl n=a;have b:=FR cl n;rw[c]at b;unfold FT
  by_cases d:mM (sd cl n)=true
  .grind
  .grind
def xK(V:List fZ)(ad:gK->Bool)(c:gK):Prop:=ad c=true/\∀i,jK c i=true->kI c i=gt V i
section
variable{A:mg}{V:List fZ}{cl:List gK}{n:Nat}{ad:gK->Bool}
theorem agQ(gH:∀i:Int,0<=i->i<n->∀k∈gt A.nx i,0<=k/\k<n)(hV:∀i:Int,0<=i->i<n->kA A V i)(r7:∀i:Int,0<=i->i<n->lC (gt V i)=true)
  (w:∀i:Int,0<=i->i<n->∃c∈cl,xK V ad c/\jK c i=true) (y:∀c,ad c=true->∀i,jK c i=true->0<=i/\i<n) {a:Int} {l:List Int} (h:nh A n ad cl = .v a l) :
  l≠[]/\(-1<=a/\a<n)/\∀k∈l,¬xK V ad (gt cl k):=by
 unfold nh at h;split at h
 .rename_i v;cases h;exact⟨v,by omega,λk f g=>by have:=(Ce.1 f).2;rw[g.1]at this;cases this⟩
 rename_i q;split at h
 .cases h
 have q:∀c∈cl,ad c=true:=λc u=>by
  cases e:ad c with
  | true=>rfl
  | false=>exact absurd (yA.2 ⟨c,u,by simp[e]⟩) q
 split at h
 .rename_i i hi;cases h;have h1:=List.find?_some hi;have b:=fe hi;rw[jc]at b;refine⟨by simpa using h1,by omega,λk f g=>?_⟩;have d:=(Ce.1 f).2;simp only[Bool.and_eq_true,dq]at d;rw[g.2 _ d.1,r7 _ b.1 b.2]at d;cases d.2
 .rename_i m;split at h
  .cases h
  rename_i z;cases h
  have s:∀i:Int,0<=i->i<n->∀r∈sd cl i,lC r=true:=λi i0 j r t=>by
   rw[dm]at m;have:=m i (jc.2 ⟨i0,j⟩);obtain⟨c,h1,b,rfl⟩:=sK.1 t
   cases e:lC (kI c i)with
   | true=>rfl
   | false=>exact absurd (yA (p:=λc=>jK c i && !lC (kI c i)) |>.2 ⟨c,h1,by simp[b,e]⟩) (by simpa using this)
  rcases FR cl n with⟨e,_⟩|⟨h1,b,d⟩
  .omega
  refine⟨yA.2 (abv (s _ h1.1 h1.2) b),by omega,λk f g=>?_⟩;have o:=Ce.1 f;have x:jK (gt cl k) (lj cl n)=true:=by have:=o.2;unfold rF at this;rw[Bool.and_eq_true]at this;exact this.1
  have:=aoS (cl:=cl) (N:=(n:Int)) gH hV (λi i0 j=>by
   obtain⟨c,q1,q2,q3⟩:=w i i0 j
   exact sK.2 ⟨c,q1,q3,q2.2 i q3⟩) h1.1 h1.2 d (c:=gt cl k) (g.2 _ x)
  rw[o.2]at this;cases this
theorem YK(h:nh A n ad cl = .none):(∀c∈cl,ad c=true)/\∀i:Int,0<=i->i<n->sd cl i≠[]/\mM (sd cl i)=false:=by
 unfold nh at h;split at h
 .cases h
 rename_i d;split at h
 .cases h
 rename_i a
 refine⟨λc a=>by
  cases e:ad c with
  | true=>rfl
  | false=>exact absurd (yA.2 ⟨c,a,(by show(!ad c)=true;rw[e];rfl)⟩) d,?_⟩
 split at h
 .cases h
 split at h
 .rename_i f;rcases FR cl n with⟨_,e⟩|⟨h1,_,_⟩
  .exact λi i0 b=>⟨λh0=>a ⟨i,jc.2 ⟨i0,b⟩,h0⟩,e i i0 b⟩
  .omega
 .cases h
theorem agL(h:nh A n ad cl = .A6):∃i:Int,(0<=i/\i<n)/\sd cl i = []:=by
 unfold nh at h;split at h
 .cases h
 split at h
 .rename_i a;obtain⟨i,hi,e⟩:=a;exact⟨i,jc.1 hi,e⟩
 split at h
 .cases h
 split at h<;>cases h
end
end Go.Proofs.YtmehofoficaelaaGreatDoor
namespace Go.Proofs.YtmehofoficaelaaGreatDoor
open Go Go.AL Classical
@[simp] theorem awi(o:Int):jA [] o = []:=rfl
@[simp] theorem awd:tj [] = -1:=rfl
@[simp] theorem awc:yJ [] = -1:=rfl
theorem ahC(l:List Int)(x:Int):tj (l ++ [x])=if l = []then x else min (tj l) x:=by
 cases l with
 | nil=>rfl
 | cons a r=>simp[tj,List.foldl_append]
theorem ahn{l:List fZ}(h:∀r∈l,r.1≠2->0<=r.2):xn l=me l:=by
 suffices ∀(l m:List fZ),(∀r∈m++l,r.1≠2->0<=r.2)->l.foldl wj (me m)=me (m++l)from by have:=this l [] (by simpa using h);rw[bq]at this;exact this
 intro l
 induction l with
 | nil=>intro m _;simp
 | cons a r i=>
  intro m c;rw[b9]
  have e:wj (me m) a=me (m ++ [a]):=by
   unfold wj;have g:=c a (by simp);unfold me;rw[dj,List.map_append]
   by_cases d:a.1=2
   .grind
   .have g:=g d;have hs:((([a]:List fZ).filter λr=>decide (r.1≠2)).map λr=>r.2) = [a.2]:=by simp[d]
    rw[hs,ahC]
    by_cases b:((m.filter λr=>decide (r.1≠2)).map λr=>r.2) = []
    .rw[if_pos b,b];rw[if_pos ⟨d,.inl (by decide)⟩]
    .rw[if_neg b];have j:=As b;obtain⟨q,f,n⟩:=ar.1 j;rw[aN]at f;have k:=c q (by simp[f.1]) (by simpa using f.2)
     by_cases hl:a.2<tj ((m.filter λr=>decide (r.1≠2)).map λr=>r.2)
     .grind
     .grind
  rw[e,i (m ++ [a]) (by simpa using c)];simp
def x4(cl:List gK)(n j:Int):fZ:=if mM (sd cl j)=false/\(nA (sd cl j)).2<n then nA (sd cl j)else(2,0)
theorem ZD(A:mg)(cl:List gK)(i n:Int):Ik A cl i n=(gt A.nx i).map (x4 cl n):=rfl
theorem YI{p q:gK->Bool}{cl:List gK}:∀ {n:Nat},n<=cl.length->(∀c∈cl,p c=q c)->kf p cl n=kf q cl n
 | 0,_,_=>rfl
 | n+1,h,hp=>by rw[kf,kf,YI (by omega) hp,hp _ (gy (by omega) (by omega))]
theorem v7(p:gK->Bool)(cl:List gK):kf p cl cl.length=idx p cl:=by
 unfold idx
 suffices ∀n:Nat,kf p cl n=(upto n).filter λk=>p (gt cl k)from this _
 intro n
 induction n with
 | zero=>rfl
 | succ n a=>
  rw[kf,a,Jb,dj]
  by_cases h:p (gt cl (n:Int))=true
  .grind
  .grind
end Go.Proofs.YtmehofoficaelaaGreatDoor
namespace Go.Proofs.YtmehofoficaelaaGreatDoor
open Go Go.AL Classical
def mP(left ls:List Int):List Int:=((upto left.length).filter λp => !ls.contains p).map λp=>gt left p
noncomputable def CO(A:mg)(n:Nat)(ad:gK->Bool)(cl:List gK):Nat->List Int->List Int×Jd
 | 0,left=>(left,.none)
 | f+1,left=>match nh A n ad (left.map λk=>gt cl k)with
  | .v _ ls=>CO A n ad cl f (mP left ls)
  | j=>(left,j)
theorem ZA{left ls:List Int}{k:Int}:k∈mP left ls↔∃p:Int,(0<=p/\p<left.length)/\p ∉ ls/\gt left p=k:=by
 unfold mP;rw[ar];constructor
 .rintro⟨p,a,e⟩;rw[aN,jc]at a;exact⟨p,a.1,by simpa using a.2,e⟩
 .rintro⟨p,h1,b,e⟩;exact⟨p,aN.2 ⟨jc.2 h1,by simpa using b⟩,e⟩
theorem aaA{left ls:List Int}{k:Int}(h:k∈mP left ls):k∈left:=by obtain⟨p,h1,_,rfl⟩:=ZA.1 h;exact gy h1.1 h1.2
theorem pI(n:Nat):(upto n).length=n:=by simp[upto]
theorem aay{left ls:List Int}{p:Int}(c:p∈ls)(h0:0<=p)(h1:p<left.length):(mP left ls).length<left.length:=by
 unfold mP;rw[List.length_map];have a:=List.length_filter_le (λp => !ls.contains p) (upto left.length);rw[pI]at a;refine Nat.lt_of_le_of_ne a λe=>?_;have:(upto left.length).length=left.length:=pI _;rw[<-this]at e;rw[this]at e;have b:((upto left.length).filter λp => !ls.contains p).length=(upto left.length).length:=by rw[e,this]
 rw[ey]at b;have:=b p (jc.2 ⟨h0,h1⟩);simp[c]at this
section
variable{A:mg}{V:List fZ}{cl:List gK}{n:Nat}{ad:gK->Bool}
theorem afo{left:List Int}{p:Int}(h0:0<=p)(h1:p<left.length):gt (left.map λk=>gt cl k) p=gt cl (gt left p):=by rw[jg h0 (by rw[List.length_map];exact h1),List.getElem_map,jg h0 h1]
theorem aaZ(gH:∀i:Int,0<=i->i<n->∀k∈gt A.nx i,0<=k/\k<n)(hV:∀i:Int,0<=i->i<n->kA A V i)(r7:∀i:Int,0<=i->i<n->lC (gt V i)=true)
  (t:∀c,ad c=true->∀i,jK c i=true->0<=i/\i<n) :
  ∀(f:Nat) (left:List Int),left.length<f->(∀k∈left,0<=k/\k<cl.length)->(∀i:Int,0<=i->i<n->∃k∈left,xK V ad (gt cl k)/\jK (gt cl k) i=true) ->
   (∀k:Int,0<=k->k<cl.length->xK V ad (gt cl k)->k∈left) ->
   ∃L,CO A n ad cl f left=(L,.none)/\(∀k,k∈L↔(0<=k/\k<cl.length)/\xK V ad (gt cl k))/\(∀k∈L,k∈left)/\∀i:Int,0<=i->i<n->nA (sd (L.map λk=>gt cl k) i)=gt V i
 | 0,left,h,_,_,_=>by omega
 | f+1,left,h,o,hc,g=>by
  have u:∀i:Int,0<=i->i<n->∃c∈left.map (λk=>gt cl k),xK V ad c/\jK c i=true:=λi i0 d=>by obtain⟨k,h1,l⟩:=hc i i0 d;exact⟨_,ar.2 ⟨k,h1,rfl⟩,l⟩
  rw[CO]
  cases b:nh A n ad (left.map λk=>gt cl k)with
  | v a ls=>
   obtain⟨h1,l,C⟩:=agQ gH hV r7 u t b;obtain⟨p,s⟩:=cI _ h1
   have H:∀p∈ls,0<=p/\p<left.length:=by
    have:∀(q:gK->Bool),∀p∈idx q (left.map λk=>gt cl k),0<=p/\p<left.length:=λq p s=>by have:=(Ce.1 s).1;rw[List.length_map]at this;exact this
    unfold nh at b;split at b
    .cases b;exact this _
    split at b
    .cases b
    split at b
    .cases b;exact this _
    split at b
    .cases b
    .cases b;exact this _
   have x:=H p s
   have keep:∀k∈left,xK V ad (gt cl k)->k∈mP left ls:=λk g j=>by obtain⟨q,q0,q1,rfl⟩:=wm.1 g;refine ZA.2 ⟨q,⟨q0,q1⟩,λB=>?_,rfl⟩;have:=C q B;rw[afo q0 q1]at this;exact this j
   obtain⟨L,G,F,E,D⟩:=aaZ gH hV r7 t f (mP left ls) (by have:=aay s x.1 x.2;omega) (λk g=>o k (aaA g)) (λi i0 d=>by
    obtain⟨k,k1,k2,k3⟩:=hc i i0 d
    exact⟨k,keep k k1 k2,k2,k3⟩) (λk k0 k1 j=>keep k (g k k0 k1 j) j)
   exact⟨L,G,F,λk g=>aaA (E k g),D⟩
  | none=>
   obtain⟨h1,l⟩:=YK b
   have z:∀i:Int,0<=i->i<n->∀r∈sd (left.map λk=>gt cl k) i,r=gt V i:=λi i0 d r o=>by obtain⟨c,q1,q2,q3⟩:=u i i0 d;have y:=MX.1 (l i i0 d).2;rw[y r o,<-q2.2 i q3];exact(y _ (sK.2 ⟨c,q1,q3,rfl⟩)).symm
   refine⟨left,rfl,λk=>⟨λm=>⟨o k m,?_,λi hi=>?_⟩,λj=>g k j.1.1 j.1.2 j.2⟩,λk g=>g,λi i0 d=>z i i0 d _ (DF (l i i0 d).1)⟩
   .exact h1 _ (ar.2 ⟨k,m,rfl⟩)
   .have w:=h1 _ (ar.2 ⟨k,m,rfl⟩);obtain⟨i0,d⟩:=t _ w i hi;exact z i i0 d _ (sK.2 ⟨_,ar.2 ⟨k,m,rfl⟩,hi,rfl⟩)
  | A6=>
   obtain⟨i,hi,e⟩:=agL b;obtain⟨c,q1,q2,q3⟩:=u i hi.1 hi.2;have:kI c i∈sd (left.map λk=>gt cl k) i:=sK.2 ⟨c,q1,q3,rfl⟩;rw[e]at this;cases this
end
end Go.Proofs.YtmehofoficaelaaGreatDoor
namespace Go.Proofs.YtmehofoficaelaaGreatDoor
open Go Go.AL Classical
theorem WD{p:Int->Bool}:∀ {n:Nat} {i:Int},0<=i->i<n->p i=true->(∀j:Int,0<=j->j<i->p j=false)->(upto n).find? p=some i
 | 0,i,h0,h1,_,_=>by omega
 | n+1,i,h0,h1,hp,hn=>by
  rw[Jb,List.find?_append]
  by_cases e:i=n
  .have:(upto n).find? p=none:=dm.2 λj a=>by rw[jc]at a;rw[hn j a.1 (by omega)];simp
   rw[this,e];rw[e]at hp;simp[hp]
  .rw[WD h0 (by omega) hp hn];rfl
theorem ae8{p:Int->Bool}{n:Nat}(h:∀j:Int,0<=j->j<n->p j=false):(upto n).find? p=none:=
 dm.2 λj a=>by rw[jc]at a;rw[h j a.1 a.2];simp
section
variable{A:mg}{n:Nat}{ad:gK->Bool}{cl:List gK}
def imp(cl:List gK)(i:Int):List Int:=kf (λc=>jK c i && !lC (kI c i)) cl cl.length
theorem agJ(h:kf (λc => !ad c) cl cl.length≠[]):nh A n ad cl = .v (-1) (kf (λc => !ad c) cl cl.length):=by unfold nh;rw[v7]at h ⊢;rw[if_pos h]
theorem agM(h:kf (λc => !ad c) cl cl.length = []){i:Int}(i0:0<=i)(a:i<n)(hi:sd cl i = []):nh A n ad cl = .A6:=by unfold nh;rw[v7]at h;rw[if_neg (λq=>q h),if_pos ⟨i,jc.2 ⟨i0,a⟩,hi⟩]
theorem agN(h:kf (λc => !ad c) cl cl.length = [])(hs:∀j:Int,0<=j->j<n->sd cl j≠[]){i:Int}(i0:0<=i)(b:i<n)(hi:imp cl i≠[])(a:∀j:Int,0<=j->j<i->imp cl j = []):nh A n ad cl = .v i (imp cl i):=by
 unfold nh;rw[v7]at h;rw[if_neg (λq=>q h),if_neg]
 .rw[WD i0 b]
  .show Jd.v i _=_;unfold imp;rw[v7]
  .rw[decide_eq_true_iff,<-v7];exact hi
  .intro j j0 j1;rw[decide_eq_false_iff_not,<-v7];exactλq=>q (a j j0 j1)
 .rintro⟨j,a,e⟩;rw[jc]at a;exact hs j a.1 a.2 e
theorem agK(h:kf (λc => !ad c) cl cl.length = [])(hs:∀j:Int,0<=j->j<n->sd cl j≠[])(a:∀j:Int,0<=j->j<n->imp cl j = []):nh A n ad cl=if lj cl n<0 then .none else .v (lj cl n) (kf (rF A cl (lj cl n)) cl cl.length):=by
 unfold nh;rw[v7]at h;rw[if_neg (λq=>q h),if_neg]
 .rw[ae8 λj j0 j1=>by
   rw[decide_eq_false_iff_not,<-v7]
   exactλq=>q (a j j0 j1)]
  rw[v7]
 .rintro⟨j,a,e⟩;rw[jc]at a;exact hs j a.1 a.2 e
theorem imp_nil{i:Int}(h:imp cl i = []):∀r∈sd cl i,lC r=true:=λr a=>by
 obtain⟨c,b,h1,rfl⟩:=sK.1 a;unfold imp at h;rw[v7]at h
 cases e:lC (kI c i)with
 | true=>rfl
 | false=>exact absurd h (yA.2 ⟨c,b,by simp[h1,e]⟩)
end
end Go.Proofs.YtmehofoficaelaaGreatDoor
namespace Go.Proofs.YtmehofoficaelaaGreatDoor
open Go Go.AL Classical
abbrev kh:=List (fZ×List Int)
def oe(r:fZ)(k:Int):kh->kh
 | []=>[(r,[k])]
 | (q,x)::t=>if q=r then(q,x ++ [k])::t else(q,x)::oe r k t
def pj(p:gK->Bool)(s:gK->fZ)(cl:List gK):Nat->kh
 | 0=>[]
 | n+1=>if p (gt cl (n:Int))=true then oe (s (gt cl (n:Int))) n (pj p s cl n)else pj p s cl n
theorem Ao{p:gK->Bool}{cl:List gK}{k:Int}:∀ {n:Nat},k∈kf p cl n↔(0<=k/\k<n)/\p (gt cl k)=true
 | 0=>by simp[kf];omega
 | n+1=>by
  rw[kf]
  by_cases h:p (gt cl (n:Int))=true
  .rw[if_pos h,List.mem_append,Ao,List.mem_singleton];constructor
   .grind
   .grind
  .rw[if_neg h,Ao];constructor
   .grind
   .grind
theorem Ez(p:gK->Bool)(cl:List gK):∀n:Nat,(kf p cl n).Pairwise (· < ·)
 | 0=>.nil
 | n+1=>by
  rw[kf]
  by_cases h:p (gt cl (n:Int))=true
  .rw[if_pos h,bR]
   exact⟨Ez p cl n,List.pairwise_singleton _ _,λa d b c=>by
    rw[List.mem_singleton]at c;have:=(Ao.1 d).1
    omega⟩
  .rw[if_neg h];exact Ez p cl n
def uc(r:fZ):kh->List Int
 | []=>[]
 | (q,x)::t=>if q=r then x else uc r t
theorem SR{r q:fZ}{k:Int}:∀ {G:kh},q∈(oe r k G).map (·.1)↔q=r\/q∈G.map (·.1)
 | []=>by simp[oe]
 | (a,x)::t=>by
  rw[oe]
  by_cases h:a=r
  .grind
  .rw[if_neg h,List.map_cons,av,SR,List.map_cons,av];constructor
   .grind
   .grind
theorem WW{r:fZ}{k:Int}:∀ {G:kh},(G.map (·.1)).Nodup->((oe r k G).map (·.1)).Nodup
 | [],_=>by simp[oe]
 | (a,x)::t,h=>by
  rw[List.map_cons,cM]at h;rw[oe]
  by_cases e:a=r
  .grind
  .rw[if_neg e,List.map_cons,cM];refine⟨λb=>?_,WW h.2⟩;rcases SR.1 b with h1|h1
   .exact e h1
   .exact h.1 h1
theorem Zi{r q:fZ}{k:Int}:∀ {G:kh},uc q (oe r k G)=if q=r then uc q G ++ [k]else uc q G
 | []=>by
  by_cases h:q=r
  .subst h;simp[oe,uc]
  .rw[if_neg h];simp[oe,uc,cu h]
 | (a,x)::t=>by
  rw[oe]
  by_cases e:a=r
  .subst e;rw[if_pos rfl]
   by_cases h:q=a
   .subst h;simp[uc]
   .rw[if_neg h];simp[uc,cu h]
  .rw[if_neg e,uc,uc,Zi]
   by_cases h:a=q
   .grind
   .grind
theorem Zj{q:fZ}{x:List Int}:∀ {G:kh},(G.map (·.1)).Nodup->((q,x)∈G↔q∈G.map (·.1)/\x=uc q G)
 | [],_=>by simp
 | (a,y)::t,h=>by
  rw[List.map_cons,cM]at h;rw[av,Zj h.2,List.map_cons,av,uc]
  by_cases e:a=q
  .grind
  .grind
section
variable{p:gK->Bool}{s:gK->fZ}{cl:List gK}
theorem GD:∀n:Nat,((pj p s cl n).map (·.1)).Nodup
 | 0=>.nil
 | n+1=>by
  rw[pj];split
  .exact WW (GD n)
  .exact GD n
theorem W1{q:fZ}:∀n:Nat,uc q (pj p s cl n)=kf (λc=>p c&&decide (s c=q)) cl n
 | 0=>rfl
 | n+1=>by
  rw[pj,kf,<-W1 n]
  by_cases h:p (gt cl (n:Int))=true
  .rw[if_pos h,Zi]
   by_cases e:q=s (gt cl (n:Int))
   .grind
   .grind
  .grind
theorem Np{q:fZ}:∀ {n:Nat},q∈(pj p s cl n).map (·.1)↔∃k:Int,(0<=k/\k<n)/\p (gt cl k)=true/\s (gt cl k)=q
 | 0=>by
  constructor
  .intro h;simp[pj]at h
  .grind
 | n+1=>by
  rw[pj]
  by_cases h:p (gt cl (n:Int))=true
  .rw[if_pos h,SR,Np];constructor
   .grind
   .grind
  .rw[if_neg h,Np];constructor
   .grind
   .grind
theorem QC{q:fZ}{x:List Int}{n:Nat}(h:(q,x)∈pj p s cl n):x=kf (λc=>p c&&decide (s c=q)) cl n/\x≠[]:=by
 have h1:=(Zj (GD n)).1 h;rw[W1]at h1;refine⟨h1.2,λe=>?_⟩;obtain⟨k,d,b,a⟩:=Np.1 h1.1;have:k∈x:=by rw[h1.2];exact Ao.2 ⟨d,by simp[b,a]⟩
 rw[e]at this;cases this
end
def gM(cl:List gK)(i:Int):kh:=pj (λc=>jK c i) (λc=>kI c i) cl cl.length
theorem x8{cl:List gK}{i:Int}{q:fZ}:q∈(gM cl i).map (·.1)↔q∈sd cl i:=by
 unfold gM;rw[Np,sK];constructor
 .rintro⟨k,h1,b,a⟩;exact⟨_,gy h1.1 h1.2,b,a⟩
 .rintro⟨c,h1,b,a⟩;obtain⟨k,k0,k1,rfl⟩:=wm.1 h1;exact⟨k,⟨k0,k1⟩,b,a⟩
theorem Nr{cl:List gK}{i:Int}:(gM cl i).length=0↔sd cl i = []:=by
 rw[ay];constructor
 .intro h;refine aT.2 λq b=>?_;have:=x8.2 b;rw[h]at this;cases this
 .intro h
  cases e:gM cl i with
  | nil=>rfl
  | cons a t=>
   have:a.1∈sd cl i:=x8.1 (by rw[e];simp);rw[h]at this;cases this
theorem GF{cl:List gK}{i:Int}:1<(gM cl i).length↔mM (sd cl i)=true:=by
 have f:((gM cl i).map (·.1)).Nodup:=GD _;constructor
 .intro h
  cases c:mM (sd cl i)with
  | true=>rfl
  | false=>
   have c:=MX.1 c
   match e:gM cl i,h with
   | a::b::t,_=>
    rw[e]at f;have k:a.1∈sd cl i:=x8.1 (by rw[e];simp);have j:b.1∈sd cl i:=x8.1 (by rw[e];simp);simp only[List.map_cons,cM,av,not_or]at f;exact absurd ((c _ k).trans (c _ j).symm) f.1.1
 .intro h;unfold mM at h;rw[List.any_eq_true]at h;obtain⟨r,d,h1⟩:=h;have h1:r≠nA (sd cl i):=by simpa using h1
  have g:nA (sd cl i)∈sd cl i:=DF λe=>by rw[e]at d;cases d
  have a:=x8.2 d;have b:=x8.2 g
  match e:gM cl i with
  | []=>rw[e]at a;cases a
  | [x]=>
   rw[e]at a b;simp only[List.map_cons,List.map_nil,List.mem_singleton]at a b;exact absurd (a.trans b.symm) h1
  | x::y::t=>simp
theorem W2{cl:List gK}{i:Int}{x:fZ×List Int}(h:gM cl i = [x]):x.1=nA (sd cl i):=by
 have h1:x.1∈sd cl i:=x8.1 (by rw[h];simp)
 have a:mM (sd cl i)=false:=by
  cases e:mM (sd cl i)with
  | false=>rfl
  | true=>
   have:=GF.2 e;rw[h]at this;simp at this
 exact MX.1 a _ h1
theorem ahq{a b:List fZ}(h:∀r,r∈a↔r∈b):me a=me b:=by
 unfold me;have c:∀n,n∈(a.filter λr=>decide (r.1≠2)).map (λr=>r.2)↔n∈(b.filter λr=>decide (r.1≠2)).map (λr=>r.2):=λn=>by simp_all
 obtain⟨A,g⟩:∃A,(a.filter λr=>decide (r.1≠2)).map (λr=>r.2)=A:=⟨_,rfl⟩;obtain⟨B,f⟩:∃B,(b.filter λr=>decide (r.1≠2)).map (λr=>r.2)=B:=⟨_,rfl⟩;rw[g,f]at c ⊢
 by_cases e:A = []
 .have:B = []:=aT.2 λn d=>by grind
  rw[e,this]
 .have i:B≠[]:=λq=>e (aT.2 λn d=>by grind);exact Int.le_antisymm (Cf ((c _).2 (As i))) (Cf ((c _).1 (As e)))
theorem E3:∀ {a b:List Int},a.Pairwise (· < ·)->b.Pairwise (· < ·)->(∀k,k∈a↔k∈b)->a=b
 | [],[],_,_,_=>rfl
 | [],y::t,_,_,h=>by have:=(h y).2 (by simp);cases this
 | x::t,[],_,_,h=>by have:=(h x).1 (by simp);cases this
 | x::s,y::t,ha,hb,h=>by
  rw[aS]at ha hb
  have e:x=y:=by
   rcases av.1 ((h x).1 (by simp))with e|e
   .exact e
   .rcases av.1 ((h y).2 (by simp))with c|c
    .exact c.symm
    .grind
  subst e;congr 1;refine E3 ha.2 hb.2 λk=>?_;have:=h k;rw[av,av]at this;constructor
  .grind
  .grind
end Go.Proofs.YtmehofoficaelaaGreatDoor
namespace Go.Proofs.YtmehofoficaelaaGreatDoor
open Go Go.AL Classical
def KS:KK:=.ints [.i64,.i64]
def lA(r:fZ):Value:=.agg #[.int .i64 r.1,.int .i64 r.2]
def oI(v:Nat)(x:List Int):D:=.fY v (x.length-1) 1 0 x.length
def rA(x:List Int):Ob:=.row 3 (x.length-1) (cl f1 x)
def iV(Q:Nat->Nat):Nat->kh->List (Value×D)
 | _,[]=>[]
 | i,(q,x)::t=>(lA q,oI (Q i) x)::iV Q (i+1) t
def oh(r:fZ):kh->Option (Nat×List Int)
 | []=>none
 | (q,x)::t=>if q=r then some (0,x)else(oh r t).map λp=>(p.1+1,p.2)
theorem YV(a b:fZ):nX (lA a) (lA b)=decide (a=b):=by
 obtain⟨f,e⟩:=a;obtain⟨d,b2⟩:=b;unfold lA nX
 by_cases h1:f=d
 .by_cases c:e=b2
  .simp_all
  .simp[c]
 .simp[h1]
theorem SM(Q:Nat->Nat)(r:fZ):∀(G:kh) (i j:Nat),yI (lA r) (iV Q i G) j=(oh r G).map λp=>(j+p.1,oI (Q (i+p.1)) p.2)
 | [],_,_=>rfl
 | (q,x)::t,i,j=>by
  rw[iV,yI,YV,oh]
  by_cases h:q=r
  .subst h;simp
  .rw[if_neg (by simpa using cu h),if_neg h,SM Q r t (i+1) (j+1)]
   cases oh r t with
   | none=>rfl
   | some p=>simp[a8,dt 1]
theorem SP(Q:Nat->Nat)(r:fZ)(d:D):∀(G:kh) (i:Nat),mu (iV Q i G) (lA r) d=match oh r G with
  | some p=>(iV Q i G).set p.1 (lA r,d)
  | none=>iV Q i G ++ [(lA r,d)]
 | [],_=>rfl
 | (q,x)::t,i=>by
  rw[iV,mu,YV,oh]
  by_cases h:q=r
  .subst h;simp
  .rw[if_neg (by simpa using cu h),if_neg h,SP Q r d t (i+1)]
   cases oh r t with
   | none=>rfl
   | some p=>simp
theorem zH{r:fZ}{k:Int}:∀ {G:kh} {t:Nat} {x:List Int},oh r G=some (t,x)->G[t]? = some (r,x)/\oe r k G=G.set t (r,x ++ [k])
 | [],_,_,h=>by cases h
 | (q,y)::g,t,x,h=>by
  rw[oh]at h;rw[oe]
  by_cases e:q=r
  .grind
  .rw[if_neg e]at h ⊢
   cases a:oh r g with
   | none=>rw[a]at h;cases h
   | some p=>
    rw[a]at h;cases h;obtain⟨h1,b⟩:=zH (k:=k) (t:=p.1) (x:=p.2) a;exact⟨by simpa using h1,by rw[b];simp⟩
theorem WX{r:fZ}{k:Int}:∀ {G:kh},oh r G=none->oe r k G=G ++ [(r,[k])]
 | [],_=>rfl
 | (q,y)::g,h=>by
  rw[oh]at h;rw[oe]
  by_cases e:q=r
  .grind
  .rw[if_neg e]at h ⊢
   cases a:oh r g with
   | none=>rw[WX a];rfl
   | some p=>rw[a]at h;cases h
@[simp] theorem Be(Q:Nat->Nat):∀(G:kh) (i:Nat),(iV Q i G).length=G.length
 | [],_=>rfl
 | (q,x)::t,i=>by rw[iV,aJ,Be Q t,aJ]
theorem vq(Q:Nat->Nat):∀(G:kh) (i t:Nat),(iV Q i G)[t]? = (G[t]?).map λx=>(lA x.1,oI (Q (i+t)) x.2)
 | [],_,_=>rfl
 | (q,x)::g,i,0=>rfl
 | (q,x)::g,i,t+1=>by rw[iV,dh,dh,vq Q g (i+1) t,a8,dt 1]
theorem V1{Q Q':Nat->Nat}:∀ {G:kh} {i:Nat},(∀t,t<G.length->Q (i+t)=Q' (i+t))->iV Q i G=iV Q' i G
 | [],_,_=>rfl
 | (q,x)::g,i,h=>by
  have h0:=h 0 (by simp);rw[cy]at h0
  rw[iV,iV,h0,V1 (Q:=Q) (Q':=Q') λt a=>by
   have:=h (t+1) (by simp;omega);rw[show i+(t+1)=i+1+t by omega]at this
   exact this]
theorem V2(Q:Nat->Nat){r:fZ}{y:List Int}:∀(G:kh) (i t:Nat),t<G.length->iV Q i (G.set t (r,y))=(iV Q i G).set t (lA r,oI (Q (i+t)) y)
 | [],_,_,h=>by simp at h
 | (q,x)::g,i,0,_=>rfl
 | (q,x)::g,i,t+1,h=>by rw[List.set_cons_succ,iV,iV,List.set_cons_succ,V2 Q g (i+1) t (by simpa using h),show i+1+t=i+(t+1)by omega]
theorem V3(Q:Nat->Nat){r:fZ}{y:List Int}:∀(G:kh) (i:Nat),iV Q i (G ++ [(r,y)])=iV Q i G ++ [(lA r,oI (Q (i+G.length)) y)]
 | [],_=>rfl
 | (q,x)::g,i=>by rw[bU,iV,iV,V3 Q g (i+1),bU,aJ,show i+1+g.length=i+(g.length+1)by omega]
structure mj(H:U)(ck sr n:Nat)(M:Nat->kh)(ow:Nat->Nat×Nat×Nat)(P:Nat->Nat)(Q:Nat->Nat->Nat):Prop where
 fc:ow ck=(0,0,0)
 fs:ow sr=(1,0,0)
 row:H[sr]? = some (.row 170 0 ((List.range n).map λj=>D.gD (P j)))
 mp:∀j,j<n->H[P j]? = some (.map KS (iV (Q j) 0 (M j)))/\ow (P j)=(2,j,0)
 ls:∀j,j<n->∀t x,(M j)[t]? = some x->H[Q j t]? = some (rA x.2)/\ow (Q j t)=(3,j,t)
section
variable{H H':U}{ck sr n:Nat}{M:Nat->kh}{ow:Nat->Nat×Nat×Nat}{P:Nat->Nat}{Q:Nat->Nat->Nat}
theorem mj.mono(h:mj H ck sr n M ow P Q)(b:∀v o,H[v]? = some o->v≠ck->H'[v]? = some o):mj H' ck sr n M ow P Q:=by
 have ne:∀v,ow v≠(0,0,0)->v≠ck:=λv f e=>f (by rw[e];exact h.fc);refine⟨h.fc,h.fs,b _ _ h.row (ne _ (by rw[h.fs];simp)),λj c=>?_,λj c t x d=>?_⟩
 .obtain⟨h1,a⟩:=h.mp j c;exact⟨b _ _ h1 (ne _ (by rw[a];simp)),a⟩
 .obtain⟨h1,a⟩:=h.ls j c t x d;exact⟨b _ _ h1 (ne _ (by rw[a];simp)),a⟩
def wC(M:Nat->kh)(j:Nat)(G:kh):Nat->kh:=λi=>if i=j then G else M i
theorem mj.old(h:mj H ck sr n M ow P Q){j t:Nat}{r:fZ}{x:List Int}{k:Int}(g:j<n)(s:oh r (M j)=some (t,x))
  (h1:H'[P j]? = some (.map KS ((iV (Q j) 0 (M j)).set t (lA r,oI (Q j t) (x ++ [k]))))) (A:H'[Q j t]? = some (rA (x ++ [k])))
  (f:∀v o,H[v]? = some o->v≠P j->v≠Q j t->ow v≠(0,0,0)->H'[v]? = some o):mj H' ck sr n (wC M j (oe r k (M j))) ow P Q:=by
 obtain⟨m,l⟩:=zH (k:=k) s;have z:t<(M j).length:=(ae.1 m).1;have lt:=(h.ls j g t _ m).2;have d:=(h.mp j g).2;have ne:∀v w,ow v≠ow w->v≠w:=λv w q e=>q (by rw[e]);refine⟨h.fc,h.fs,f _ _ h.row (ne _ _ (by rw[h.fs,d];simp)) (ne _ _ (by rw[h.fs,lt];simp)) (by rw[h.fs];simp),λi hi=>?_,λi hi u y b=>?_⟩
 .obtain⟨c,a⟩:=h.mp i hi;refine⟨?_,a⟩;unfold wC
  by_cases e:i=j
  .subst e;rw[if_pos rfl,h1,l,V2 _ _ _ _ z,aQ]
  .grind
 .unfold wC at b
  by_cases e:i=j
  .subst e;rw[if_pos rfl,l,bW]at b
   by_cases p:t=u
   .grind
   .rw[if_neg p]at b;obtain⟨c,a⟩:=h.ls i hi u y b;exact⟨f _ _ c (ne _ _ (by rw[a,d];simp)) (ne _ _ (by rw[a,lt];simp[cu p])) (by rw[a];simp),a⟩
  .rw[if_neg e]at b;obtain⟨c,a⟩:=h.ls i hi u y b;exact⟨f _ _ c (ne _ _ (by rw[a,d];simp)) (ne _ _ (by rw[a,lt];simp[e])) (by rw[a];simp),a⟩
theorem mj.new(h:mj H ck sr n M ow P Q){j v:Nat}{r:fZ}{k:Int}(z:j<n)(t:oh r (M j)=none)(C:ck<v)(q:H.length<=v)
  (h1:H'[P j]? = some (.map KS (iV (Q j) 0 (M j) ++ [(lA r,oI v [k])]))) (E:H'[v]? = some (rA [k]))
  (f:∀w o,H[w]? = some o->w≠P j->ow w≠(0,0,0)->H'[w]? = some o) :
  ∃b Q',mj H' ck sr n (wC M j (oe r k (M j))) b P Q'/\∀w,w≠v->b w=ow w:=by
 have B:=WX (k:=k) t;have d:=(h.mp j z).2;have ne:∀v w,ow v≠ow w->v≠w:=λv w q e=>q (by rw[e]);have lv:∀w o,H[w]? = some o->w≠v:=λw o p=>by grind
 let b:Nat->Nat×Nat×Nat:=λw=>if w=v then(3,j,(M j).length)else ow w
 let Q':Nat->Nat->Nat:=λi u=>if i=j/\u=(M j).length then v else Q i u
 have hP:∀i,i<n->P i≠v:=λi hi=>lv _ _ (h.mp i hi).1;have A:∀i u x,i<n->(M i)[u]? = some x->Q i u≠v:=λi u x hi s=>lv _ _ (h.ls i hi u x s).1;have hs:sr≠v:=lv _ _ h.row;refine⟨b,Q',⟨?_,?_,f _ _ h.row (ne _ _ (by rw[h.fs,d];simp)) (by rw[h.fs];simp),λi hi=>?_,λi hi u y c=>?_⟩,λw p=>if_neg p⟩
 .show(if ck=v then _ else _)=_;rw[if_neg (by omega)];exact h.fc
 .show(if sr=v then _ else _)=_;rw[if_neg hs];exact h.fs
 .obtain⟨m,a⟩:=h.mp i hi;refine⟨?_,?_⟩
  .unfold wC
   by_cases e:i=j
   .subst e;rw[if_pos rfl,h1,B,V3,aQ];have l:iV (Q' i) 0 (M i)=iV (Q i) 0 (M i):=V1 λu D=>by grind
    have g:Q' i (M i).length=v:=by grind
    rw[l,g]
   .rw[if_neg e];have l:Q' i=Q i:=funext λu=>by grind
    rw[l];exact f _ _ m (ne _ _ (by rw[a,d];simp[e])) (by rw[a];simp)
  .grind
 .unfold wC at c
  by_cases e:i=j/\u=(M j).length
  .grind
  .have c:(M i)[u]? = some y:=by grind
   obtain⟨m,a⟩:=h.ls i hi u y c;have g:Q' i u=Q i u:=by grind
   rw[g];refine⟨f _ _ m (ne _ _ (by rw[a,d];simp)) (by rw[a];simp),?_⟩;show(if Q i u=v then _ else _)=_;rw[if_neg (A i u y hi c)];exact a
end
end Go.Proofs.YtmehofoficaelaaGreatDoor
namespace Go.Proofs.YtmehofoficaelaaGreatDoor
open Go Go.AL Classical
structure tz(cl:List gK)(i:Int)(w:fZ->Bool)(seen:List Nat)(out:List Int):Prop where
 nd:seen.Nodup
 lt:∀t∈seen,t<(gM cl i).length
 OF:out.Nodup
 mem:∀k,k∈out↔∃t∈seen,∃x,(gM cl i)[t]? = some x/\w x.1=true/\k∈x.2
section
variable{cl:List gK}{i:Int}{w:fZ->Bool}{seen:List Nat}{out:List Int}
theorem Nq{t:Nat}{x:fZ×List Int}(h:(gM cl i)[t]? = some x):x.2=kf (λc=>jK c i&&decide (kI c i=x.1)) cl cl.length/\x.2≠[]:=
 QC (List.mem_of_getElem? h)
theorem GG{t:Nat}{x:fZ×List Int}{k:Int}(h:(gM cl i)[t]? = some x):k∈x.2↔(0<=k/\k<cl.length)/\jK (gt cl k) i=true/\kI (gt cl k) i=x.1:=by rw[(Nq h).1,Ao];simp
theorem afm{t u:Nat}{x y:fZ×List Int}(h:(gM cl i)[t]? = some x)(d:(gM cl i)[u]? = some y)(e:x.1=y.1):t=u:=by
 have c:((gM cl i).map (·.1)).Nodup:=GD _;have a:((gM cl i).map (·.1))[t]? = some x.1:=by rw[au,h];rfl
 have b:((gM cl i).map (·.1))[u]? = some x.1:=by rw[au,d,e];rfl
 obtain⟨p,a⟩:=ae.1 a;obtain⟨q,b⟩:=ae.1 b;exact(List.getElem_inj c).1 (a.trans b.symm)
theorem tz.start:tz cl i w [] []:=⟨.nil,λ_ h=>(by cases h),.nil,λk=>by simp⟩
theorem IN{n t:Nat}(nd:seen.Nodup)(lt:∀t∈seen,t<n)(d:t<n)(e:t ∉ seen):(seen ++ [t]).Nodup/\(∀u∈seen ++ [t],u<n)/\(seen ++ [t]).length<=n:=by
 have h1:(seen ++ [t]).Nodup:=by grind
 have a:∀u∈seen ++ [t],u<n:=λu c=>by grind
 have:=Io h1 (m:=List.range n) λx b=>bj.2 (a x b);rw[List.length_range]at this;exact⟨h1,a,this⟩
theorem tz.step(h:tz cl i w seen out){t:Nat}{x:fZ×List Int}(j:(gM cl i)[t]? = some x)(l:t ∉ seen):tz cl i w (seen ++ [t]) (if w x.1=true then out++x.2 else out):=by
 have s:=(ae.1 j).1;obtain⟨h1,d,_⟩:=IN h.nd h.lt s l
 have m:∀k,k∈(if w x.1=true then out++x.2 else out)↔∃u∈seen ++ [t],∃y,(gM cl i)[u]? = some y/\w y.1=true/\k∈y.2:=λk=>by
  constructor
  .intro g
   by_cases f:w x.1=true
   .rw[if_pos f,List.mem_append,h.mem]at g;rcases g with⟨u,c,y,h1,d⟩|g
    .grind
    .grind
   .rw[if_neg f,h.mem]at g;obtain⟨u,c,y,h1,d⟩:=g;exact⟨u,bA _ c,y,h1,d⟩
  .rintro⟨u,c,y,h1,d,p⟩;rcases List.mem_append.1 c with c|c
   .have:k∈out:=(h.mem k).2 ⟨u,c,y,h1,d,p⟩;split
    .grind
    .exact this
   .grind
 refine⟨h1,d,?_,m⟩
 by_cases f:w x.1=true
 .rw[if_pos f,cO];refine⟨h.OF,?_,λa o b n e=>?_⟩
  .rw[(Nq j).1];exact(Ez _ _ _).imp λh e=>by omega
  .subst e;obtain⟨u,c,y,q1,q2,q3⟩:=(h.mem a).1 o;have r:=((GG j).1 n).2.2;have q:=((GG q1).1 q3).2.2;have:=afm j q1 (r.symm.trans q);rw[this]at l;exact l c
 .rw[if_neg f];exact h.OF
theorem tz.bnd(h:tz cl i w seen out):∀k∈out,0<=k/\k<cl.length:=λk a=>by obtain⟨t,_,x,h1,_,b⟩:=(h.mem k).1 a;exact((GG h1).1 b).1
theorem tz.len(h:tz cl i w seen out):out.length<=cl.length:=Av _ _ h.OF h.bnd
theorem tz.done(h:tz cl i w seen out)(n:∀t,t<(gM cl i).length->t∈seen):out.mergeSort (λx y=>decide (x<=y))=kf (λc=>jK c i&&w (kI c i)) cl cl.length:=by
 have g:=List.mergeSort_perm out (λx y=>decide (x<=y));have j:(out.mergeSort (λx y=>decide (x<=y))).Nodup:=g.nodup_iff.2 h.OF
 have hs:(out.mergeSort (λx y=>decide (x<=y))).Pairwise λx y=>decide (x<=y)=true:=
  fy (λa b c h1 d=>by simp only[decide_eq_true_eq]at h1 d ⊢;omega) (λa b=>by simp only[bQ,decide_eq_true_eq];omega) out
 refine E3 ((hs.and j).imp λ⟨h1,d⟩=>by simp only[decide_eq_true_eq]at h1;omega) (Ez _ _ _) λk=>?_;rw[g.mem_iff,h.mem,Ao];constructor
 .rintro⟨t,f,x,h1,d,o⟩;have:=(GG h1).1 o;exact⟨this.1,by rw[this.2.1,this.2.2,d];rfl⟩
 .rintro⟨h1,d⟩;rw[Bool.and_eq_true]at d;have m:kI (gt cl k) i∈(gM cl i).map (·.1):=x8.2 (sK.2 ⟨_,gy h1.1 h1.2,d.1,rfl⟩);obtain⟨x,l,e⟩:=ar.1 m;obtain⟨t,f⟩:=aC.1 l;exact⟨t,n t (ae.1 f).1,x,f,by rw[e];exact d.2,(GG f).2 ⟨h1,d.1,e.symm⟩⟩
def v8(G:kh)(seen:List Nat):List fZ:=seen.map λt=>((G[t]?).map (·.1)).getD (0,0)
theorem agV{G:kh}{t:Nat}{x:fZ×List Int}(h:G[t]? = some x):v8 G (seen ++ [t])=v8 G seen ++ [x.1]:=by unfold v8;rw[List.map_append,List.map_singleton,h];rfl
theorem agU(c:∀t,t<(gM cl i).length->t∈seen)(lt:∀t∈seen,t<(gM cl i).length)(r:fZ):r∈v8 (gM cl i) seen↔r∈sd cl i:=by
 rw[<-x8];unfold v8;rw[ar,ar];constructor
 .grind
 .rintro⟨x,b,e⟩;obtain⟨t,a⟩:=aC.1 b;exact⟨t,c t (ae.1 a).1,by rw[a];exact e⟩
end
theorem W0{p q:gK->Bool}{s:gK->fZ}{cl:List gK}:∀ {n:Nat},(∀k:Int,0<=k->k<n->p (gt cl k)=q (gt cl k))->pj p s cl n=pj q s cl n
 | 0,_=>rfl
 | n+1,h=>by rw[pj,pj,h n (by omega) (by omega),W0 λk k0 k1=>h k k0 (by omega)]
def hM(ad:gK->Bool)(cl:List gK)(k:Nat)(j:Nat):kh:=pj (λc=>ad c&&jK c (j:Int)) (λc=>kI c (j:Int)) cl k
def hP(ad:gK->Bool)(cl:List gK)(k e:Nat)(j:Nat):kh:=
 if (gt cl (k:Int)).lo<=(j:Int)/\(j:Int)<(gt cl (k:Int)).lo+e then oe (kI (gt cl (k:Int)) (j:Int)) k (hM ad cl k j)else hM ad cl k j
section
variable{ad:gK->Bool}{cl:List gK}{k:Nat}
theorem afA:hP ad cl k 0=hM ad cl k:=funext λj=>if_neg (by omega)
theorem Xl{e:Nat}(h0:0<=(gt cl (k:Int)).lo):hP ad cl k e ((gt cl (k:Int)).lo.toNat+e)=hM ad cl k ((gt cl (k:Int)).lo.toNat+e):=if_neg (by omega)
theorem afz{e:Nat}(h0:0<=(gt cl (k:Int)).lo):hP ad cl k (e+1)=wC (hP ad cl k e) ((gt cl (k:Int)).lo.toNat+e) (oe (gt (gt cl (k:Int)).es (e:Int)) k (hP ad cl k e ((gt cl (k:Int)).lo.toNat+e))):=funext λj=>by
 unfold wC
 by_cases a:j=(gt cl (k:Int)).lo.toNat+e
 .rw[if_pos a];subst a;rw[Xl h0];unfold hP;rw[if_pos (by omega)];unfold kI;congr 2;omega
 .rw[if_neg a];unfold hP
  by_cases h:(gt cl (k:Int)).lo<=(j:Int)/\(j:Int)<(gt cl (k:Int)).lo+e
  .grind
  .grind
theorem afy(a:ad (gt cl (k:Int))=true){e:Nat}(b:(gt cl (k:Int)).hi=(gt cl (k:Int)).lo+e):hP ad cl k e=hM ad cl (k+1):=funext λj=>by
 unfold hP;show _=hM ad cl (k+1) j
 conv=>rhs;unfold hM;rw[pj]
 have c:(ad (gt cl (k:Int))&&jK (gt cl (k:Int)) (j:Int))=decide ((gt cl (k:Int)).lo<=(j:Int)/\(j:Int)<(gt cl (k:Int)).lo+e):=by rw[a,ei];unfold jK;rw[b]
 rw[c]
 by_cases h:(gt cl (k:Int)).lo<=(j:Int)/\(j:Int)<(gt cl (k:Int)).lo+e
 .rw[if_pos h,if_pos (by simpa using h)];rfl
 .rw[if_neg h,if_neg (by simpa using h)];rfl
theorem afx(a:ad (gt cl (k:Int))=false):hM ad cl (k+1)=hM ad cl k:=funext λj=>by unfold hM;rw[pj,if_neg (by simp[a])]
theorem afw(a:∀c∈cl,ad c=true)(j:Nat):hM ad cl cl.length j=gM cl (j:Int):=by unfold hM gM;exact W0 λk k0 k1=>by rw[a _ (gy k0 k1),ei]
