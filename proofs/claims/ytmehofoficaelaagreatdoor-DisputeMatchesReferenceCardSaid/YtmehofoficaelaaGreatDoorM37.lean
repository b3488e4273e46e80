/- Part 37 of DisputeMatchesReference. -/
import Derived.Test.YtmehofoficaelaaGreatDoorM36
import Derived.Test.YtmehofoficaelaaGreatDoorM26
set_option linter.all false
open List renaming length_map→aE,getElem?_eq_getElem→bs,mem_singleton→b4,getElem_map→cj,getD_eq_getElem?_getD→di,length_filter_le→dr,replicate→dx,map_eq_nil_iff→eh,length→List.l
open Bool renaming false→bb,true→cp
open Int renaming toNat→Int.n
namespace Go.Proofs.YtmehofoficaelaaGreatDoor
open Go Go.AL Classical
set_option maxRecDepth 10000
set_option maxHeartbeats 8000000
def aea{l:List gj}{n:Int}(h:n.n<l.l):(cl fS l).drop (n.n*2)=fS (gt l n)++cl fS (l.drop (n.n+1)):=by rw[vX,bL h,nS];congr 1;unfold gt;rw[di,bs h];rfl
set_option maxHeartbeats 16000000
theorem gE.s{T:iL}{f:FuncId}{args:List D}{dst:Option Nat}{s a:St}{K:St->Prop}(hs:s=a)(h:gE T f args dst a K .mk):gE T f args dst s K .mk:=by subst hs;exact h
end Go.Proofs.YtmehofoficaelaaGreatDoor
namespace Go.Proofs.YtmehofoficaelaaGreatDoor
open Go Go.AL Classical
set_option maxRecDepth 10000
set_option maxHeartbeats 8000000
def H0(g:gv)(n:Nat)(v:List gj)(lf:List Int):gg:=[.row 43 0 g.cells,.row 86 0 (cl fS v),.row 51 0 [.gh 1 0 2 0 n],.row 3 0 (cl f1 lf),.row 37 0 [.gp]]
def ad9{v:List gj}{n:Int}(h:n.n<v.l):(cl fS v)[n.n*2]? = some (.i (gt v n).1):=by
 have:=aea h;rw[Cv]at this;have a:((cl fS v).drop (n.n*2))[0]? = some (.i (gt v n).1):=by rw[this];rfl
 rwa [aM,cJ]at a
section
variable{nx:List (List Int)}
end
def f102(L:List Int)(h0:0<L.l)(m:L.l<=4000000000):Wf T 145 [dI L] [] (Ey D.i λr=>r∈L/\∀x∈L,r<=x):=by
 refine Yg Kp ?_;simp[Kp];(with_reducible repeat' first|refine Xk ?_<;>try simp|refine Xs ?_ ?_<;>intro h<;>(try intro o)<;>(try simp[h])<;>try omega|refine Xg ?_|omega);refine gx.e ((1,gt L 0):Int×Int) (λy=>[(0,dI L),(3,.i y.2),(4,.i y.1)]) (λy=>[]) (λy=>1<=y.1/\y.1<=L.l/\y.2∈L/\∀j:Int,0<=j->j<y.1->y.2<=gt L j) (λy=>(L.l-y.1).n) ?_ ?_
 .refine⟨gf,gI,gF U U,λj j0 j1=>?_⟩;dsimp only at j1 ⊢;rw[(U:j=0)];exact eu _
 rintro⟨i,r⟩ ⟨i0,d,c,b⟩;dsimp only at i0 d c b ⊢
 by_cases hi:i<L.l
 .simp[hi];refine gi ?_;have k:=gF (l:=L) (n:=i) U hi;refine LJ.e (i+1,min r (gt L i)) ?_;refine ic ⟨?_,λj j0 j1=>?_⟩
  .dsimp only;rcases(U:min r (gt L i)=r\/min r (gt L i)=gt L i)with e|e<;>rw[e]<;>assumption
  .dsimp only at j1 ⊢
   by_cases e:j=i
   .subst e;omega
   .have:=b j j0 U;omega
 .simp[hi];refine gi ?_;refine Ey.i r rfl rfl ⟨c,λx f=>?_⟩;obtain⟨a,g,p,rfl⟩:=xJ.1 f;exact b a g U
def f103(L:List Int)(h0:0<L.l)(m:L.l<=4000000000):Wf T 146 [dI L] [] (Ey D.i λr=>r∈L/\∀x∈L,x<=r):=by
 refine Yg Kv ?_;simp[Kv];(with_reducible repeat' first|refine Xk ?_<;>try simp|refine Xs ?_ ?_<;>intro h<;>(try intro o)<;>(try simp[h])<;>try omega|refine Xg ?_|omega);refine gx.e ((1,gt L 0):Int×Int) (λy=>[(0,dI L),(3,.i y.2),(4,.i y.1)]) (λy=>[]) (λy=>1<=y.1/\y.1<=L.l/\y.2∈L/\∀j:Int,0<=j->j<y.1->gt L j<=y.2) (λy=>(L.l-y.1).n) ?_ ?_
 .refine⟨gf,gI,gF U U,λj j0 j1=>?_⟩;dsimp only at j1 ⊢;rw[(U:j=0)];exact eu _
 rintro⟨i,r⟩ ⟨i0,d,c,b⟩;dsimp only at i0 d c b ⊢
 by_cases hi:i<L.l
 .simp[hi];refine gi ?_;have k:=gF (l:=L) (n:=i) U hi;refine LJ.e (i+1,max r (gt L i)) ?_;refine ic ⟨?_,λj j0 j1=>?_⟩
  .dsimp only;rcases(U:max r (gt L i)=r\/max r (gt L i)=gt L i)with e|e<;>rw[e]<;>assumption
  .dsimp only at j1 ⊢
   by_cases e:j=i
   .subst e;omega
   .have:=b j j0 U;omega
 .simp[hi];refine gi ?_;refine Ey.i r rfl rfl ⟨c,λx f=>?_⟩;obtain⟨a,g,p,rfl⟩:=xJ.1 f;exact b a g U
def kY(v:List gj)(x:List Int)(o:Int):List Int:=(x.filter λk=>decide ((gt v k).1=o)).map λk=>(gt v k).2
def aa4{v:List gj}{x:List Int}{o k:Int}(h:(gt v k).1=o):kY v (x ++ [k]) o=kY v x o ++ [(gt v k).2]:=by simp[kY,h]
def aa3{v:List gj}{x:List Int}{o k:Int}(h:(gt v k).1≠o):kY v (x ++ [k]) o=kY v x o:=by simp[kY,h]
def aa1(v:List gj)(x:List Int)(o:Int):(kY v x o).l<=x.l:=by unfold kY;rw[aE];exact dr _ _
def aiS{v:List gj}{x:List Int}{o n:Int}:n∈kY v x o↔∃k∈x,gt v k=(o,n):=by
 unfold kY;rw[au];constructor
 .rintro⟨k,a,rfl⟩;rw[aO]at a;exact⟨k,a.1,cL (by simpa using a.2) rfl⟩
 .rintro⟨k,a,e⟩;exact⟨k,aO.2 ⟨a,by simp[e]⟩,by rw[e]⟩
def Ep(v:List gj)(x:List Int)(r:gj):Prop:=
 (∃m∈kY v x 3,(∀y∈kY v x 3,m<=y)/\r=(1,m+1)) \/
 (kY v x 3 = []/\(kY v x 1).l=x.l/\∃m∈kY v x 1,(∀y∈kY v x 1,y<=m)/\r=(3,m+1)) \/
 (kY v x 3 = []/\¬(kY v x 1≠[]/\(kY v x 1).l=x.l)/\r=(2,0))
def dL(l:List Int)(n:Nat):D:=if l = []then .gp else .gh n (l.l-1) 1 0 l.l
def rL(l:List Int):gg:=if l = []then []else [.row 3 (l.l-1) (cl f1 l)]
def HL(a b:List Int):gg:=.row 86 0 [.i 0,.i 0]::(rL a++rL b)
def f56(v:List gj)(x:List Int)(s:∀k∈x,0<=k/\k<v.l)(N:x.l<=4000000000)(z:∀k:Int,0<=k->k<v.l->0<=(gt v k).2/\(gt v k).2<=4000):Wf T 89 [iu v,dN 1 f1 x] [] (Ey (λr:gj=>.agg [.i r.1,.i r.2]) λr=>Ep v x r):=by
 have E:∀o,kY v [] o = []:=λ_=>rfl;have J:∀n,dL [] n = .gp:=λ_=>rfl;refine Yg M1 ?_;simp[M1];refine gi ?_;refine gx.e (0:Int) (λy=>[(0,iu v),(1,dN 1 f1 x),(4,.ptr 0 0 0),(5,dL (kY v (x.take y.n) 3) 1),(6,dL (kY v (x.take y.n) 1) (if kY v (x.take y.n) 3 = []then 1 else 2)),(9,dN 1 f1 x),(10,.i x.l),(11,.i y)]) (λy=>HL (kY v (x.take y.n) 3) (kY v (x.take y.n) 1)) (λy=>0<=y/\y<=x.l) (λy=>(x.l-y).n) ?_ ?_ (by simp[E,J]) (by simp[E,HL,rL])
 .simp
 rintro i ⟨i0,L⟩;have F:=aa1 v (x.take i.n) 3;have G:=aa1 v (x.take i.n) 1;rw[aG]at F G
 by_cases hi:i<x.l
 .have B:=s _ (gF i0 hi)
  have m:(x.take (i+1).n)=x.take i.n ++ [gt x i]:=by rw[(U:(i+1).n=i.n+1),dA,bs U,ef,<-iV i0 hi]
  have O:=ad9 (v:=v) (n:=gt x i) U;simp[hi];generalize gt x i=k at *;generalize D:kY v (x.take i.n) 3=a at *;generalize C:kY v (x.take i.n) 1=b at *;have K:=z k B.1 B.2;have q3:(gt v k).1=3->kY v (x.take (i+1).n) 3=a ++ [(gt v k).2]:=λh=>by rw[m,aa4 h,D]
  have j:(gt v k).1≠3->kY v (x.take (i+1).n) 3=a:=λh=>by rw[m,aa3 h,D]
  have q1:(gt v k).1=1->kY v (x.take (i+1).n) 1=b ++ [(gt v k).2]:=λh=>by rw[m,aa4 h,C]
  have l:(gt v k).1≠1->kY v (x.take (i+1).n) 1=b:=λh=>by rw[m,aa3 h,C]
  have w:a = []\/0<a.l:=by cases a<;>simp
  have u:b = []\/0<b.l:=by cases b<;>simp
  have gQ:((x.l:Int)-(i+1)).n<((x.l:Int)-i).n/\0<=i+1/\i+1<=x.l:=U
  by_cases c:a = []<;>by_cases d:b = []
  all_goals
   first|have w:=w.resolve_left c|skip
   first|have u:=u.resolve_left d|skip
   (with_reducible repeat' first|refine Xk ?_<;>try simp[c,d,dL,rL,HL]|refine Xs ?_ ?_<;>intro h<;>(try intro I)<;>(try simp[h,c,d,dL,rL,HL])<;>try omega|refine Xg ?_|omega)
  all_goals
   first
    | (have f:=q3 ‹_›;have g:=l U;refine LJ.i (i+1) (by simp[f,g,dL,c,d]<;>omega) (by simp[f,g,HL,rL,c,d,iY]<;>omega) rfl rfl gQ)
    | (have f:=j ‹_›;have g:=q1 ‹_›;refine LJ.i (i+1) (by simp[f,g,dL,c,d]<;>omega) (by simp[f,g,HL,rL,c,d,iY]<;>omega) rfl rfl gQ)
    | (have f:=j jX;have g:=l jX;refine LJ.i (i+1) (by simp[f,g,dL,c,d]) (by simp[f,g,HL,rL,c,d]) rfl rfl gQ)
 .rw[af U]at *;simp[hi]
  by_cases c:kY v x 3 = []<;>by_cases d:kY v x 1 = []
  all_goals
   simp[c,d,dL,rL,HL];(with_reducible repeat' first|refine Xk ?_<;>try simp[c,d,dL,rL,HL]|refine Xs ?_ ?_<;>intro h<;>(try intro I)<;>(try simp[h,c,d,dL,rL,HL])<;>try omega|refine Xg ?_|omega)
  all_goals
   first
    | exact Ey.i (2,0) rfl rfl (.inr (.inr ⟨c,λ⟨h1,H⟩=>U,rfl⟩))
    | exact Ey.i (2,0) rfl rfl (.inr (.inr ⟨c,λ⟨h1,H⟩=>h1 d,rfl⟩))
    | exact absurd (ao.2 c) ‹_›
    | exact absurd (ao.2 d) ‹_›
    | skip
  all_goals
   refine gE.s (by simp[c,d];rfl) ?_
  all_goals
   first
    | refine gE.rq rfl rfl (f102 (kY v x 3) U U) gf (λ_=>by simp[flat]) (λ_=>gf) ?_
    | refine gE.rq rfl rfl (f103 (kY v x 1) U U) gf (λ_=>by simp[flat]) (λ_=>gf) ?_
  all_goals
   rintro r ⟨p,t⟩
   have M:0<=r/\r<=4000:=by obtain⟨q,A,e⟩:=aiS.1 p;have:=z q (s q A).1 (s q A).2;rwa [e]at this
   simp[c,d];refine jT c d ?_
  all_goals
   first
    | exact Ey.i (1,r+1) rfl rfl (.inl ⟨r,p,t,rfl⟩)
    | exact Ey.i (3,r+1) rfl rfl (.inr (.inl ⟨c,U,r,p,t,rfl⟩))
def aa2(v:List gj)(x:List Int)(o:Int):kY v x o=ia (x.map λk=>gt v k) o:=by unfold kY ia;rw[List.filter_map,b6];rfl
def Ep.mk{v:List gj}{x:List Int}{r:gj}(h:Ep v x r):r=mr (x.map λk=>gt v k):=by
 unfold mr;rw[<-aa2,<-aa2,aE];rcases h with⟨m,c,l,rfl⟩|⟨f,h1,m,c,g,rfl⟩|⟨f,h1,rfl⟩
 .have d:kY v x 3≠[]:=λe=>by rw[e]at c;cases c
  have a:=FU c;have b:=l _ (xK d);rw[if_pos d,(U:oc (kY v x 3)=m)]
 .have d:kY v x 1≠[]:=λe=>by rw[e]at c;cases c
  have a:=Py c;have b:=g _ (Bv d)
  have i:(x.map λk=>gt v k)≠[]:=λe=>by have j:=eh.1 e;subst j;exact d rfl
  rw[if_neg (λh=>h f),if_pos ⟨i,h1⟩,(U:pH (kY v x 1)=m)]
 .rw[if_neg (λh=>h f),if_neg];rintro⟨a,b⟩;refine h1 ⟨λe=>a ?_,b⟩;rw[e]at b;rw[aY b.symm];rfl
def Ep.iff{A:mf}{v:List gj}{i:Int}{r:gj}(h0:∀k∈gt A.nx i,0<=(gt v k).2)(b:A.ov i=bb)(a:Ep v (gt A.nx i) r):lY A v i↔gt v i=r:=by rw[a.mk];exact aaV h0 b
def gE.w{T:iL}{f:FuncId}{args:List D}{dst:Option Nat}{s a:St}{K:St->Prop}(hs:s=a)(h:gE T f args dst a K .mk):gE T f args dst s K .mk:=by subst hs;exact h
def BA{l:List gj}{x:gj}{o:Int}(h:x.1=o):ia (l ++ [x]) o=ia l o ++ [x.2]:=by simp[ia,h]
def Bz{l:List gj}{x:gj}{o:Int}(h:x.1≠o):ia (l ++ [x]) o=ia l o:=by simp[ia,h]
@[simp] theorem axN(o:Int):ia [] o = []:=rfl
theorem By(l:List gj)(o:Int):(ia l o).l<=l.l:=by unfold ia;rw[aE];exact dr _ _
def Gr{α:Type}[Inhabited α]{l:List α}{i:Int}(i0:0<=i)(a:i<l.l):l.take (i+1).n=l.take i.n ++ [gt l i]:=by rw[(U:(i+1).n=i.n+1),dA,bs U,ef,<-iV i0 a]
def afT(l:List gj)(h0:0<l.l)(N:l.l<=4000000000)(J:∀x∈l,0<=x.2/\x.2<=4000):Wf T 135 [iu l] [] (Is (.agg [.i (mr l).1,.i (mr l).2])):=by
 refine Yg D9 ?_;simp[D9];refine gx.e ((0,0,0):Int×Nat×Nat) (λy=>[(0,iu l),(2,.ptr 0 0 0),(3,.gh 1 y.2.1 1 0 (ia (l.take y.1.n) 3).l),(4,.gh 2 y.2.2 1 0 (ia (l.take y.1.n) 1).l),(9,iu l),(10,.i l.l),(11,.i y.1)]) (λy=>[.row 86 0 [.i 0,.i 0],.row 3 y.2.1 (cl f1 (ia (l.take y.1.n) 3)),.row 3 y.2.2 (cl f1 (ia (l.take y.1.n) 1))]) (λy=>0<=y.1/\y.1<=l.l) (λy=>(l.l-y.1).n) ?_ ?_
 .simp
 rintro⟨i,s,q⟩ ⟨i0,H⟩;dsimp only at i0 H ⊢;have j:=By (l.take i.n) 3;have m:=By (l.take i.n) 1;rw[aG]at j m
 by_cases hi:i<l.l
 .have e:=Gr (l:=l) i0 hi;have z:(gt l i).1=3->ia (l.take (i+1).n) 3=ia (l.take i.n) 3 ++ [(gt l i).2]:=λh=>by rw[e,BA h]
  have t:(gt l i).1≠3->ia (l.take (i+1).n) 3=ia (l.take i.n) 3:=λh=>by rw[e,Bz h]
  have C:(gt l i).1=1->ia (l.take (i+1).n) 1=ia (l.take i.n) 1 ++ [(gt l i).2]:=λh=>by rw[e,BA h]
  have u:(gt l i).1≠1->ia (l.take (i+1).n) 1=ia (l.take i.n) 1:=λh=>by rw[e,Bz h]
  obtain⟨A,p⟩:∃A,ia (l.take i.n) 3=A:=⟨_,rfl⟩;obtain⟨B,n⟩:∃B,ia (l.take i.n) 1=B:=⟨_,rfl⟩;rw[p]at j z t ⊢;rw[n]at m C u ⊢;have gQ:((l.l:Int)-(i+1)).n<((l.l:Int)-i).n/\0<=i+1/\i+1<=l.l:=U;simp[hi];(with_reducible repeat' first|refine Xk ?_<;>try simp|refine Xs ?_ ?_<;>intro h<;>(try intro O)<;>(try simp[h])<;>try omega|refine Xg ?_|omega)
  .have b:=z ‹_›;have c:=u U;refine LJ.i (i+1,s+1,q) (by simp[b,c]) (by simp[b,c]) rfl rfl gQ
  .have b:=t U;have c:=C ‹_›;refine LJ.i (i+1,s,q+1) (by simp[b,c]) (by simp[b,c]) rfl rfl gQ
  .have b:=t jX;have c:=u jX;refine LJ.i (i+1,s,q) (by simp[b,c]) (by simp[b,c]) rfl rfl gQ
 .have G:i=l.l:=by omega
  subst G;rw[af U]at *;obtain⟨r,a⟩:∃r,mr l=r:=⟨_,rfl⟩;have w:∀o,∀y∈ia l o,0<=y/\y<=4000:=λo y I=>by have:=J _ (uK.1 I);exact this
  rw[a];unfold mr at a;obtain⟨A,p⟩:∃A,ia l 3=A:=⟨_,rfl⟩;obtain⟨B,n⟩:∃B,ia l 1=B:=⟨_,rfl⟩;have v:=w 3;have D:=w 1;rw[p]at j a v ⊢;rw[n]at m a D ⊢;have E:l≠[]:=ao.1 h0;simp[hi]
  by_cases g:A = []
  .rw[if_neg (λh=>h g)]at a;subst g
   by_cases f:B.l=l.l
   .rw[if_pos ⟨E,f⟩]at a;subst a;simp[f];refine gi ?_;refine gE.w ny ?_;refine gE.rq rfl rfl (f103 B U U) (by simp[f]) (λ_=>by simp[flat]) (λ_=>gf) ?_;rintro r ⟨d,k⟩;have L:=Py d;have K:=k _ (Bv (l:=B) λe=>by rw[e]at d;cases d);have e:r=pH B:=U;have M:=D r d;subst e;simp;exact nb
   .rw[if_neg (λh=>f h.2)]at a;subst a;simp[f];exact nb
  .rw[if_pos g]at a;subst a;have F:0<A.l:=ao.2 g;simp[F];refine gi ?_;refine gE.w ny ?_;refine gE.rq rfl rfl (f102 A U U) gf (λ_=>by simp[flat]) (λ_=>gf) ?_;rintro r ⟨d,k⟩;have L:=FU d;have K:=k _ (xK g);have e:r=oc A:=U;have M:=v r d;subst e;simp;exact nb
set_option maxHeartbeats 4000000
def Wy{n:Nat}{N:Int->Int}{K:Int->Prop}(c:∀i,K i->(0<=i/\i<n)/\0<=N i)(h:∀i,K i->N i=0\/∃k,K k/\N k=N i-1):∀i,K i->N i<n:=by
 have b:∀(a:Nat) (i:Int),K i->N i=a->∀m:Nat,m<=a->∃q,K q/\N q=m:=by
  intro a
  induction a with
  | zero=>exactλi hi e m j=>⟨i,hi,U⟩
  | succ a d=>
   intro i hi e m j
   by_cases em:m=a+1
   .exact⟨i,hi,U⟩
   rcases h i hi with h1|⟨k,l,h1⟩
   .omega
   .exact d k l U m U
 intro i hi;have h0:=c i hi
 have:=Jt (fo (n:=(N i).n+1)) (m:=(upto n).map λk=>(N k).n) λx f=>by obtain⟨q,g,e⟩:=b (N i).n i hi U x (by have:=br.1 f;omega);exact au.2 ⟨q,jF.2 (c q g).1,by rw[e];rfl⟩
 simp[upto]at this;omega
def aiO{A:mf}{n:Nat}{v:List gj}(hS:∀i:Int,0<=i->i<n->∀k∈gt A.nx i,0<=k/\k<n)(h:∀i:Int,0<=i->i<n->lY A v i){i:Int}(i0:0<=i)(e:i<n):0<=(gt v i).2/\(gt v i).2<n:=by
 refine⟨(h i i0 e).n0,Wy (N:=λi=>(gt v i).2) (K:=λi=>0<=i/\i<n) (λi hi=>⟨hi,(h i hi.1 hi.2).n0⟩) (λi hi=>?_) i ⟨i0,e⟩⟩;rcases h i hi.1 hi.2 with⟨_,b⟩|⟨_,⟨a,f,b,⟨k,c,d⟩,_⟩|⟨a,f,b,_,k,c,d⟩|⟨b,_⟩⟩
 .left;rw[b]
 .right;exact⟨k,hS i hi.1 hi.2 k c,by rw[b,d]⟩
 .right;exact⟨k,hS i hi.1 hi.2 k c,by rw[b,d]⟩
 .left;rw[b]
def kV(v:List Kn):List gj:=v.map λx=>(x.1,x.2.1)
def kB(v:List Kn):List Bool:=v.map λx => !x.2.2
def CE{v:List Kn}{k:Int}(k0:0<=k)(k1:k<v.l):gt (kV v) k=((gt v k).1,(gt v k).2.1):=by rw[iV k0 (by unfold kV;rw[aE];exact k1),iV k0 k1];unfold kV;rw[cj]
def yh{v:List Kn}{k:Int}(k0:0<=k)(k1:k<v.l):gt (kB v) k = !(gt v k).2.2:=by rw[iV k0 (by unfold kB;rw[aE];exact k1),iV k0 k1];unfold kB;rw[cj]
@[local simp] theorem axL:max (0:Int) (-1)=0:=jr
noncomputable def qz(v:List Kn)(x:List Int)(n:Int):Kn:=if Ds (kV v) (kB v) x n then(1,n,cp)else if (my (kV v) (kB v) x x.l).1=x.l/\(my (kV v) (kB v) x x.l).2=n-1 then(3,n,cp)else(0,0,bb)
def Yd(v:List Kn)(l:List Int)(n:Int)(B:1<=n/\n<=4000)(h0:0<l.l)(hl:l.l<2 ^ 40)(p:∀k∈l,0<=k/\k<v.l)(z:∀k∈l,(gt v k).2.2=cp->0<=(gt v k).2.1) :
  Wf T 129 [.sl 3 (v.map fK),dI l,.i n] [] (Is (.agg [.i (qz v l n).1,.i (qz v l n).2.1,.b (qz v l n).2.2])):=by
 refine Yg M8 ?_;simp[M8];refine gx.e (0:Int) (λy=>[(0,.sl 3 (v.map fK)),(1,dI l),(2,.i n),(6,.ptr 0 0 0),(7,.i (my (kV v) (kB v) l y.n).1),(8,.i (max 0 (my (kV v) (kB v) l y.n).2)),(9,.i y)]) (λy=>[.row 245 0 [.i 0,.i 0,.b bb]]) (λy=>0<=y/\y<=l.l/\∀k∈l.take y.n,¬(gt (kB v) k=bb/\gt (kV v) k=(3,n-1))) (λy=>(l.l-y).n) ?_ ?_
 .simp
 rintro j ⟨j0,j1,j2⟩;dsimp only at j0 j1 j2 ⊢
 by_cases f:j<l.l
 .have a:=p _ (gF j0 f);have c:=aqi (v:=kV v) (b:=kB v) (x:=l) j0;have hV:=CE a.1 a.2;have g:=yh a.1 a.2;have w:=QP (kV v) (kB v) l j.n
  have d:¬(gt (kB v) (gt l j)=bb/\gt (kV v) (gt l j)=(3,n-1))->∀k∈l.take (j+1).n,¬(gt (kB v) k=bb/\gt (kV v) k=(3,n-1)):=λh k a=>by
   rw[jI j0 f]at a;rcases aj.1 a with a|a
   .exact j2 k a
   .rw[b4.1 a];exact h
  rw[hV,g]at d c;simp[f];generalize gt v (gt l j)=r at *;obtain⟨o,m,s⟩:=r;dsimp only at d c hV g ⊢;(with_reducible repeat' first|refine Xk ?_<;>try simp|refine Xs ?_ ?_<;>intro h<;>(try intro A)<;>(try simp[h])<;>try omega|refine Xg ?_|omega)
  .have hl:Ds (kV v) (kB v) l n:=⟨_,gF j0 f,by rw[g];simp[*],by rw[hV];simp[*]⟩;simp[qz,hl]
  .refine LJ.i (j+1) (by first|rfl|simp[c, *]) (by first|rfl|simp[c, *]) rfl rfl ?_;exact ic (d (by simp[*]))
  .refine LJ.i (j+1) (by first|rfl|simp[c, *]) (by first|rfl|simp[c, *]) rfl rfl ?_;exact ic (d (by simp[*]))
  .refine LJ.i (j+1) (by first|rfl|simp[c, *]) (by first|rfl|simp[c, *]) rfl rfl ?_;exact ic (d (by simp[*]))
 .have u:j=l.l:=by omega
  subst u;have hl:¬Ds (kV v) (kB v) l n:=λ⟨k,a,h⟩=>j2 k (by rw[lW U];exact a) h
  have i:(my (kV v) (kB v) l l.l).1=l.l->max 0 (my (kV v) (kB v) l l.l).2=(my (kV v) (kB v) l l.l).2:=λe=>by have h1:=QQ _ e 0 h0;have t:=Vk _ e 0 h0;have q:=gF (l:=l) (n:=((0:Nat):Int)) U U;have a:=p _ q;rw[yh a.1 a.2]at t;rw[CE a.1 a.2]at h1;have:=z _ q (by simpa using t.1);dsimp only at h1;omega
  simp[f];(with_reducible repeat' first|refine Xk ?_<;>try simp|refine Xs ?_ ?_<;>intro h<;>(try intro A)<;>(try simp[h])<;>try omega|refine Xg ?_|omega)
  .rw[i ‹_›]at h;simp[qz,hl, *]
  .rw[i ‹_›]at h;simp[qz,hl, *]
  .simp[qz,hl, *]
set_option maxHeartbeats 8000000
def agv(g:gv)(hg:gZ g)(l:List Pos)(b:mY g l)(h0:0<l.l)(v:List gj)(q:v.l=l.l)(t:∀k:Int,0<=k->k<v.l->0<=(gt v k).2/\(gt v k).2<=4000) :
  Wf T 42 [dG g,gT l,iu v] [] (Ey (λn:Int=>.tup [.i n,.i 0]) λn=>n<0↔∀k:Int,0<=k->k<l.l->lY (iv g l (gy g l)) v k):=by
 have s:=b.len;have D:(gy g l).l=l.l:=by simp[gy]
 have gQ:=λi i0 f=>(oN b (i:=i) i0 f).2
 have z:∀k:Int,0<=k->k<l.l->(gt (gy g l) k).l<=4000000000:=λk k0 k1=>by rw[(oN b k0 k1).1,aE];have:=wG hg (b.ok _ (gF k0 k1));omega
 refine Yg MU ?_;simp[MU];refine Yc (f52 g hg l b h0) ?_;simp;refine gi ?_;refine gx.e (0:Int) (λy=>[(2,iu v),(3,.ptr 0 0 0),(8,.sl 1 ((gy g l).map fN)),(30,gT l),(31,.i l.l),(32,.i y)]) (λy=>[.row 43 0 g.cells]) (λy=>(0<=y/\y<=l.l)/\∀k:Int,0<=k->k<y->lY (iv g l (gy g l)) v k) (λy=>(l.l-y).n) ?_ ?_
 .exact⟨gf,λk k0 k1=>U⟩
 rintro i ⟨⟨i0,f⟩,j⟩;dsimp only at i0 f j ⊢
 have p:lY (iv g l (gy g l)) v i->∀k:Int,0<=k->k<i+1->lY (iv g l (gy g l)) v k:=λh k k0 k1=>by
  by_cases e:k=i
  .rw[e];exact h
  .exact j k k0 U
 by_cases hi:i<l.l
 .have C:=b.ok _ (gF i0 hi)
  have o:¬lY (iv g l (gy g l)) v i->Ex (λn:Int=>.tup [.i n,.i 0]) (λn=>n<0↔∀k:Int,0<=k->k<l.l->lY (iv g l (gy g l)) v k) (.tup [.i i,.i 0]) []:=λh=>
   ⟨i,rfl,rfl,⟨λc=>U,λc=>absurd (c i i0 hi) h⟩⟩
  simp[hi,rO];refine gi ?_;refine Yq (f56 v (gt (gy g l) i) (λk d=>by rw[q];exact gQ i i0 hi k d) (z i i0 hi) (λk k0 k1=>t k k0 k1)) λr B=>?_;simp;refine gi ?_;refine Yc (f54 g hg (gt l i) C) ?_;simp;have w:(stat g (gt l i)).2=cp->(lY (iv g l (gy g l)) v i↔gt v i=((stat g (gt l i)).1,0)):=λh=>aaW (A:=iv g l (gy g l)) h;have u:(stat g (gt l i)).2=bb->(lY (iv g l (gy g l)) v i↔gt v i=r):=λh=>Ep.iff (A:=iv g l (gy g l)) (λk d=>(t k (gQ i i0 hi k d).1 (by rw[q];exact(gQ i i0 hi k d).2)).1) h B;(with_reducible repeat' first|refine Xk ?_<;>try simp|refine Xs ?_ ?_<;>intro h<;>(try intro E)<;>(try simp[h])<;>try omega|refine Xg ?_|omega)
  .have a:=(w ‹_›).2 (cL jX jX);refine LJ.e (i+1) ?_;exact⟨U,gU,p a⟩
  .have a:¬lY (iv g l (gy g l)) v i:=λh=>absurd ((w ‹_›).1 h) (by intro e;simp_all);obtain⟨n,h1,c,m⟩:=o a;exact Ey.i n h1 c m
  .have a:=(u oh).2 (cL oh oh);refine LJ.e (i+1) ?_;exact⟨U,gU,p a⟩
  .have a:¬lY (iv g l (gy g l)) v i:=λh=>absurd ((u oh).1 h) (by intro e;simp_all);obtain⟨n,h1,c,m⟩:=o a;exact Ey.i n h1 c m
 .have x:i=l.l:=by omega
  subst x;simp;refine gi ?_;exact Ey.i (-1) rfl rfl ⟨λ_=>j,λ_=>U⟩
noncomputable def tv(A:mf)(v:List gj)(i:Int):gj:=if A.ov i=cp then(A.rs i,0)else mr ((gt A.nx i).map λk=>gt v k)
def aiR{A:mf}{v:List gj}{i:Int}(h0:∀k∈gt A.nx i,0<=(gt v k).2):lY A v i↔gt v i=tv A v i:=by
 unfold tv
 by_cases h:A.ov i=cp
 .rw[if_pos h];exact aaW h
 .rw[if_neg h];exact aaV h0 (by simpa using h)
def R9{v:List gj}(c:∀k:Int,0<=k->k<v.l->-4000<=(gt v k).2/\(gt v k).2<=4000){x:List Int}(b:∀k∈x,0<=k/\k<v.l):∀y∈x.map (λk=>gt v k),-4000<=y.2/\y.2<=4000:=λy a=>jZ
def afU(l:List gj)(h0:0<l.l)(N:l.l<=4000000000)(J:∀x∈l,-4000<=x.2/\x.2<=4000):Wf T 135 [iu l] [] (Is (.agg [.i (mr l).1,.i (mr l).2])):=by
 refine Yg D9 ?_;simp[D9];refine gx.e ((0,0,0):Int×Nat×Nat) (λy=>[(0,iu l),(2,.ptr 0 0 0),(3,.gh 1 y.2.1 1 0 (ia (l.take y.1.n) 3).l),(4,.gh 2 y.2.2 1 0 (ia (l.take y.1.n) 1).l),(9,iu l),(10,.i l.l),(11,.i y.1)]) (λy=>[.row 86 0 [.i 0,.i 0],.row 3 y.2.1 (cl f1 (ia (l.take y.1.n) 3)),.row 3 y.2.2 (cl f1 (ia (l.take y.1.n) 1))]) (λy=>0<=y.1/\y.1<=l.l) (λy=>(l.l-y.1).n) ?_ ?_
 .simp
 rintro⟨i,s,q⟩ ⟨i0,H⟩;dsimp only at i0 H ⊢;have j:=By (l.take i.n) 3;have m:=By (l.take i.n) 1;rw[aG]at j m
 by_cases hi:i<l.l
 .have e:=Gr (l:=l) i0 hi;have z:(gt l i).1=3->ia (l.take (i+1).n) 3=ia (l.take i.n) 3 ++ [(gt l i).2]:=λh=>by rw[e,BA h]
  have t:(gt l i).1≠3->ia (l.take (i+1).n) 3=ia (l.take i.n) 3:=λh=>by rw[e,Bz h]
  have C:(gt l i).1=1->ia (l.take (i+1).n) 1=ia (l.take i.n) 1 ++ [(gt l i).2]:=λh=>by rw[e,BA h]
  have u:(gt l i).1≠1->ia (l.take (i+1).n) 1=ia (l.take i.n) 1:=λh=>by rw[e,Bz h]
  obtain⟨A,p⟩:∃A,ia (l.take i.n) 3=A:=⟨_,rfl⟩;obtain⟨B,n⟩:∃B,ia (l.take i.n) 1=B:=⟨_,rfl⟩;rw[p]at j z t ⊢;rw[n]at m C u ⊢;have gQ:((l.l:Int)-(i+1)).n<((l.l:Int)-i).n/\0<=i+1/\i+1<=l.l:=U;simp[hi];(with_reducible repeat' first|refine Xk ?_<;>try simp|refine Xs ?_ ?_<;>intro h<;>(try intro O)<;>(try simp[h])<;>try omega|refine Xg ?_|omega)
  .have b:=z ‹_›;have c:=u U;refine LJ.i (i+1,s+1,q) (by simp[b,c]) (by simp[b,c]) rfl rfl gQ
  .have b:=t U;have c:=C ‹_›;refine LJ.i (i+1,s,q+1) (by simp[b,c]) (by simp[b,c]) rfl rfl gQ
  .have b:=t jX;have c:=u jX;refine LJ.i (i+1,s,q) (by simp[b,c]) (by simp[b,c]) rfl rfl gQ
 .have G:i=l.l:=by omega
  subst G;rw[af U]at *;obtain⟨r,a⟩:∃r,mr l=r:=⟨_,rfl⟩;have w:∀o,∀y∈ia l o,-4000<=y/\y<=4000:=λo y I=>by have:=J _ (uK.1 I);exact this
  rw[a];unfold mr at a;obtain⟨A,p⟩:∃A,ia l 3=A:=⟨_,rfl⟩;obtain⟨B,n⟩:∃B,ia l 1=B:=⟨_,rfl⟩;have v:=w 3;have D:=w 1;rw[p]at j a v ⊢;rw[n]at m a D ⊢;have E:l≠[]:=ao.1 h0;simp[hi]
  by_cases g:A = []
  .rw[if_neg (λh=>h g)]at a;subst g
   by_cases f:B.l=l.l
   .rw[if_pos ⟨E,f⟩]at a;subst a;simp[f];refine gi ?_;refine gE.w ny ?_;refine gE.rq rfl rfl (f103 B U U) (by simp[f]) (λ_=>by simp[flat]) (λ_=>gf) ?_;rintro r ⟨d,k⟩;have L:=Py d;have K:=k _ (Bv (l:=B) λe=>by rw[e]at d;cases d);have e:r=pH B:=U;have M:=D r d;subst e;simp;exact nb
   .rw[if_neg (λh=>f h.2)]at a;subst a;simp[f];exact nb
  .rw[if_pos g]at a;subst a;have F:0<A.l:=ao.2 g;simp[F];refine gi ?_;refine gE.w ny ?_;refine gE.rq rfl rfl (f102 A U U) gf (λ_=>by simp[flat]) (λ_=>gf) ?_;rintro r ⟨d,k⟩;have L:=FU d;have K:=k _ (xK g);have e:r=oc A:=U;have M:=v r d;subst e;simp;exact nb
def afE(g:gv)(hg:gZ g)(l:List Pos)(f:mY g l)(h0:0<l.l)(v:List gj)(C:v.l=l.l)(F:∀k:Int,0<=k->k<v.l->-4000<=(gt v k).2/\(gt v k).2<=4000)(i:Int)(i0:0<=i)(m:i<l.l) :
  Wf T 81 [dG g,gT l,iu v,.i i] [] (Is (.tup [.b (decide (gt v i=tv (iv g l (gy g l)) v i)),.i 0])):=by
 have s:=f.len;have gQ:=(oN f (i:=i) i0 m).2;have p:=(oN f (i:=i) i0 m).1;have q:=f.ok _ (gF i0 m);have A:(gy g l).l=l.l:=by simp[gy]
 have n:(gt (gy g l) i).l<=4000000000:=by rw[p,aE];have:=wG hg q;omega
 have c:(stat g (gt l i)).2=cp->((gt v i=tv (iv g l (gy g l)) v i)↔gt v i=((stat g (gt l i)).1,0)):=λh=>by rw[tv,if_pos (show(iv g l (gy g l)).ov i=cp from h)];exact dQ
 have a:(stat g (gt l i)).2=bb->((gt v i=tv (iv g l (gy g l)) v i)↔gt v i=mr ((gt (gy g l) i).map λk=>gt v k)):=λh=>by rw[tv,if_neg (by rw[show(iv g l (gy g l)).ov i=bb from h];simp)];exact dQ
 have b:(stat g (gt l i)).2=bb->0<(gt (gy g l) i).l:=λh=>by
  rw[p,aE];have:jb g (gt l i)≠[]:=λe=>by unfold stat at h;simp[e]at h
  exact ao.2 this
 have cn:=f52 g hg l f h0;have cs:=f54 g hg (gt l i) q;generalize J:tv (iv g l (gy g l)) v i=L at *;obtain⟨st,G⟩:∃st,stat g (gt l i)=st:=⟨_,rfl⟩;obtain⟨nx,w⟩:∃nx,gy g l=nx:=⟨_,rfl⟩;rw[G]at cs c a b;rw[w]at gQ n a b cn A;obtain⟨o,ov⟩:=st;dsimp only at c a b cs;refine Yg Aj ?_;simp[Aj];refine Yc (cn) ?_;simp;refine gi ?_;refine Yt (cs) ?_;simp;cases ov
 .have b:=b rfl;have a:=a rfl;simp[rO];refine gi ?_;obtain⟨x,B⟩:∃x,gt nx i=x:=⟨_,rfl⟩;rw[B]at gQ n b a ⊢;refine gx.e ((0,dx x.l (0,0)):Int×List gj) (λy=>[(2,iu v),(3,.i i),(14,.gh 1 0 2 0 x.l),(66,dN 1 f1 x),(67,.i x.l),(68,.i y.1)]) (λy=>[.row 43 0 g.cells,.row 86 0 (cl fS y.2)]) (λy=>(0<=y.1/\y.1<=x.l)/\y.2.l=x.l/\∀j:Int,0<=j->j<y.1->gt y.2 j=gt v (gt x j)) (λy=>(x.l-y.1).n) ?_ ?_
  .grind
  rintro⟨k,M⟩ ⟨⟨k0,k1⟩,hM,t⟩;dsimp only at k0 k1 hM t ⊢
  by_cases d:k<x.l
  .have E:=gQ _ (gF k0 d);simp[d];refine gi ?_;refine LJ.i (k+1,pt M k (gt v (gt x k))) (by first|rfl|simp[HA]) (by first|rfl|simp[HA]) rfl rfl ?_;refine⟨U,gU,by rw[jg k0 U];exact hM,λj j0 j1=>?_⟩;dsimp only at j1 ⊢;rw[qj k0 U j0]
   by_cases e:j=k
   .grind
   .grind
  .have z:k=x.l:=by omega
   have e:M=x.map λk=>gt v k:=by refine bj (by rw[aE];exact hM) λj j0 j1=>?_;have h:=t j U (by rw[z];omega);rw[iV U U,iV (l:=x) U U]at h;rw[cj];exact h
   have u:=R9 F (x:=x) (λk d=>by rw[C];exact gQ k d);rw[<-e]at u a;have cm:=afU M U U u;obtain⟨r,D⟩:∃r,mr M=r:=⟨_,rfl⟩;rw[D]at cm a;obtain⟨I,H⟩:=r;dsimp only at cm;simp[d];refine gi ?_;refine ji.r rfl rfl cm (by simp[hM]) rfl gf ?_;simp;refine gi ?_;rw[<-cu];exact decide_eq_decide.2 (by rw[a,Prod.ext_iff])
 .have c:=c rfl;simp;refine gi ?_;rw[<-cu];exact decide_eq_decide.2 (by rw[c,Prod.ext_iff])
def agw(g:gv)(hg:gZ g)(p:Pos)(u:iI g p):Wf T 51 [dG g,dP p,.i 40] [] (Ey (λx:Bool×List Pos=>.agg [if x.1 then gT x.2 else .gp,.i (if x.1 then 0 else 2)]) (λx=>x.1=cp->Kj g x.2/\x.2.l<=40)):=by
 have K:=u.small hg;refine Yz GU (kS 62 [6,7] (jm 34 [5] GU.body)) ?_;simp[GU,jm,kS,nR,nU,oo,mm];refine gx.fz [3,4] rfl ?_;refine gx.e (([p],[p]):List Pos×List Pos) (λy=>[(2,.i 40),(3,.ptr 0 0 0),(6,.ptr 2 0 0),(7,gT y.1),(8,gT y.2)]) (λy=>[.row 43 0 g.cells,.row 46 0 p.cells,.row 123 0 [.gp,.i 0],.dead,.dead]) (λy=>Nw g p y.1 y.2/\y.1.l<=40) (λy=>(81-y.1.l)*2+(if y.2 = []then 0 else 1)) ?_ ?_
 .refine⟨⟨λi h1 v=>by simp at v;omega,by simpa using u,gf,gf,gf,gf,gf⟩,gf⟩
 rintro⟨c,last⟩ ⟨d,z⟩;have t:=d.len;have C:=d.aiE;dsimp only at d t C z ⊢;simp;refine kz ?_ ?_<;>intro h
 .refine gx.e ((0,0,[]):Int×Nat×List Pos) (λy=>[(2,.i 40),(3,.ptr 0 0 0),(6,.ptr 2 0 0),(7,gT c),(8,gT last),(9,.gh 5 y.2.1 5 0 y.2.2.l),(10,.i y.1)]) (λy=>[.row 43 0 g.cells,.row 46 0 p.cells,.row 123 0 [.gp,.i 0],.dead,.dead,.row 46 y.2.1 (cl Pos.cells y.2.2)]) (λy=>0<=y.1/\y.1<=last.l/\(∀m,m∈y.2.2↔∃q∈last.take y.1.n,s0 g q m)/\y.2.2.l<=y.1.n*4000000000) (λy=>last.l-y.1.n) ?_ ?_
  .simp
  rintro⟨i,G,nx⟩ ⟨i0,E,o,D⟩;dsimp only at i0 E o D ⊢;simp;refine kz ?_ ?_<;>intro h
  .have f:=d.ok _ (d.sub _ (gF i0 ‹_›));have S:=wG hg f;refine Yt (f60 g hg _ f) ?_;simp;refine gi ?_;refine LJ.e (i+1,G+1,nx++jb g (gt last i)) ?_;dsimp only;refine⟨U,U,U,λm=>?_,?_⟩
   .rw[aj,o,Dv,jI i0 ‹_›];simp only[aj,b4];constructor
    .grind
    .grind
   .grind
  .rw[lW U]at o
   have A:∀q∈nx,iI g q:=λq f=>by obtain⟨r,F,n⟩:=(o q).1 f;exact Un hg (d.ok r (d.sub r F)) n
   refine Yc (Yb nx U (λq f=>(A q f).small hg)) ?_;simp;have L:=Qu nx;have B:=lP.nodup (DU nx);have s:∀q,q∈lA nx↔∃r∈last,s0 g r q:=λq=>by rw[xQ,o]
   have w:∀q∈lA nx,Small q:=λq f=>(A q (xQ.1 f)).small hg;generalize hN:lA nx=N at *;refine gx.e ((0,0,[]):Int×Nat×List Pos) (λy=>[(2,.i 40),(3,.ptr 0 0 0),(6,.ptr 2 0 0),(7,gT c),(8,.gh 6 y.2.1 5 0 y.2.2.l),(9,gT N),(11,.i y.1)]) (λy=>[.row 43 0 g.cells,.row 46 0 p.cells,.row 123 0 [.gp,.i 0],.dead,.dead,.dead,.row 46 y.2.1 (cl Pos.cells y.2.2)]) (λy=>0<=y.1/\y.1<=N.l/\(∀m,m∈y.2.2↔m∈N.take y.1.n/\m ∉ c)/\y.2.2.Nodup/\y.2.2.l<=y.1.n) (λy=>N.l-y.1.n) ?_ ?_
   .simp
   rintro⟨j,gm,l⟩ ⟨j0,j1,j2,j3,j4⟩;dsimp only at j0 j1 j2 j3 j4 ⊢;simp;refine kz ?_ ?_<;>intro h
   .refine Yc (f27 c (gt N j) U (λq f=>(d.ok q f).small hg) (w _ (gF j0 ‹_›)) d.BR) ?_;simp
    have O:rj c (gt N j)<0↔gt N j ∉ c:=by
     by_cases n:gt N j∈c
     .have:=H7 n;simp[n];omega
     .rw[Ym n];simp[n]
    refine kz ?_ ?_<;>intro h
    .refine LJ.e (j+1,gm+1,l ++ [gt N j]) ?_;dsimp only
     have J:gt N j ∉ l:=λn=>by have:=(j2 _).1 n;obtain⟨k,M,e⟩:=dW.1 this.1;refine bz.1 B k j.n U U U ?_;rw[e,iV j0 ‹_›]
     refine⟨U,U,U,λm=>?_,cZ.2 ⟨j3,gf,λa Q b P e=>?_⟩,gO⟩
     .rw[aj,j2,jI j0 ‹_›,aj,b4];constructor
      .grind
      .grind
     .grind
    .refine LJ.e (j+1,gm,l) ?_;dsimp only;refine⟨U,U,U,λm=>?_,j3,U⟩;rw[j2,jI j0 ‹_›,aj,b4];constructor
     .grind
     .grind
   .rw[lW U]at j2;refine Yc (Yb (c++l) gO (λq f=>(aj.1 f).elim (λh=>(d.ok q h).small hg) λh=>w q ((j2 q).1 h).1)) ?_;simp;have H:=d.step hg (next:=N) (last':=l) (all':=lA (c++l)) s j2 j3 (DU _) (λq=>by rw[xQ,aj]);refine kz ?_ ?_<;>intro h
    .exact Ey.i (bb,[]) gf rfl (λh=>by cases h)
    .obtain⟨h1,v,R⟩:=H U;refine LJ.e (lA (c++l),l) ?_;dsimp only;refine⟨?_,h1,by simp at *;omega⟩;have I:last≠[]:=λe=>by subst e;simp at *
     rw[if_neg I]
     by_cases e:l = []
     .grind
     .grind
 .refine Ey.i (cp,c) gf rfl λ_=>⟨⟨d.BR,d.ok,λq f=>d.cl q f ?_,?_⟩,z⟩
  .grind
  .have:=fJ d.has;exact⟨this,t⟩
def agn(x:sy)(c:Kh x):Wf T 13 [.agg x.cells,.i 40] [] (Ey (λy:gv×Pos×Bool×List Pos=>.agg (y.1.cells++(y.2.1.cells ++ [if y.2.2.1 then gT y.2.2.2 else .gp,.b y.2.2.1]))) λy=>gZ y.1/\iI y.1 y.2.1/\(y.2.2.1=cp->Kj y.1 y.2.2.2/\y.2.2.2.l<=40)):=by
 have hl:x.l.l=18:=c.len;have f:x.cells.l=31:=by simp[sy.cells,Raw.cells,c.len]
 have d:x.cells.take 31=x.cells:=af U;refine Yg Lg ?_;simp[Lg,hl];refine⟨U,?_⟩;rw[d];refine gE.q rfl rfl (f32 x c) (by simpa using WR x) (λ_=>gf) ?_;rintro⟨g,p⟩ ⟨hg,a⟩;dsimp only at hg a;simp;refine gE.q rfl rfl (agw g hg p a) gf (λy=>by obtain⟨b,l⟩:=y;cases b<;>simp) ?_;intro y e;simp;obtain⟨b,l⟩:=y;cases b
 .simp;exact Ey.i (g,p,bb,l) rfl rfl ⟨hg,a,λh=>by cases h⟩
 .simp;exact Ey.i (g,p,cp,l) rfl rfl ⟨hg,a,e⟩
end Go.Proofs.YtmehofoficaelaaGreatDoor
namespace Go.Proofs.YtmehofoficaelaaGreatDoor
open Go Go.AL Classical
set_option maxRecDepth 10000
set_option maxHeartbeats 4000000
section
variable{g:gv}{l:List Pos}
theorem Yx(hg:gZ g)(a:mY g l):yP g l (gy g l) (upto l.l) 1:=
 ⟨hg,a.ok,a.len,by simp[gy],λi i0 b=>⟨(oN a i0 b).2,by rw[(oN a i0 b).1,aE];have:=wG hg (a.ok _ (gF i0 b));omega⟩,λi hi=>jF.1 hi,
  eo.2 (List.nodup_range.imp λh e=>h (Int.ofNat.inj e)),by simp[upto];exact a.len,U⟩
theorem FI.congr{v0 v v':List gj}{b x:List Bool}{n:Int}(G:mY g l)(h:FI g l (gy g l) (upto l.l) v0 n v b)(F:v'.l=l.l)(H:x.l=l.l)
  (u:∀k:Int,0<=k->k<l.l->gt x k=gt b k) (z:∀k:Int,0<=k->k<l.l->gt b k=bb->gt v' k=gt v k):FI g l (gy g l) (upto l.l) v0 n v' x:=by
 have gQ:=λ(i:Int) (hi:i∈upto l.l)=>(oN G (jF.1 hi).1 (jF.1 hi).2).2;have t:=λ(i:Int) (hi:i∈upto l.l) k d=>u k (gQ i hi k d).1 (gQ i hi k d).2;have r:=λ(i:Int) (hi:i∈upto l.l) k d=>z k (gQ i hi k d).1 (gQ i hi k d).2;refine⟨F,H,λk k0 k1 d=>absurd (jF.2 ⟨k0,k1⟩) d,λi hi e=>?_,λi hi e n0=>?_⟩
 .have p:=jF.1 hi;rw[u i p.1 p.2]at e;obtain⟨a,c⟩:=h.dec i hi e;rw[z i p.1 p.2 e];refine⟨a,?_⟩;rcases c with c|⟨A,⟨m,m1,c2,⟨k,d,s,w⟩,J⟩|⟨m,m1,c2,s,k,d,w⟩⟩
  .exact .inl c
  .refine .inr ⟨A,.inl ⟨m,m1,c2,⟨k,d,by rw[t i hi k d];exact s,by rw[r i hi k d s];exact w⟩,λq j f o=>?_⟩⟩;rw[t i hi q j]at f;rw[r i hi q j f]at o ⊢;exact J q j f o
  .refine .inr ⟨A,.inr ⟨m,m1,c2,λq j=>?_,k,d,by rw[r i hi k d (s k d).1];exact w⟩⟩;rw[t i hi q j,r i hi q j (s q j).1];exact s q j
 .have p:=jF.1 hi;rw[u i p.1 p.2]at e;obtain⟨D,C,B⟩:=h.DC i hi e n0;refine⟨D,λk d f o=>?_,λE I=>?_⟩
  .rw[t i hi k d]at f;rw[r i hi k d f]at o ⊢;exact C k d f o
  .have y:∀k∈gt (gy g l) i,gt b k=bb/\(gt v k).1=1:=λk d=>by obtain⟨f,o⟩:=I k d;rw[t i hi k d]at f;rw[r i hi k d f]at o;exact⟨f,o⟩
   obtain⟨k,d,h1⟩:=B E y;exact⟨k,d,by rw[r i hi k d (y k d).1];exact h1⟩
structure KI(g:gv)(l:List Pos)(n:Int)(v:List Kn):Prop where
 len:v.l=l.l
 fi:FI g l (gy g l) (upto l.l) [] n (kV v) (kB v)
theorem aau(v:List Kn):(kV v).l=v.l:=by simp[kV]
theorem aat(v:List Kn):(kB v).l=v.l:=by simp[kB]
theorem KI.start(j:mY g l):KI g l 1 (l.map (oT g)):=by
 have hl:(l.map (oT g)).l=l.l:=gf
 have f:∀k:Int,0<=k->k<l.l->gt (l.map (oT g)) k=oT g (gt l k):=λk k0 k1=>by rw[iV k0 (by rw[hl];exact k1),iV k0 k1,cj]
 have hV:∀k:Int,0<=k->k<l.l->gt (kV (l.map (oT g))) k=((stat g (gt l k)).1,0):=λk k0 k1=>by rw[CE k0 (by rw[hl];exact k1),f k k0 k1];rfl
 have d:∀k:Int,0<=k->k<l.l->gt (kB (l.map (oT g))) k = !(stat g (gt l k)).2:=λk k0 k1=>by rw[yh k0 (by rw[hl];exact k1),f k k0 k1];rfl
 have gQ:=λ(i:Int) (hi:i∈upto l.l)=>(oN j (jF.1 hi).1 (jF.1 hi).2).2;refine⟨hl,by rw[aau,hl],by rw[aat,hl],λk k0 k1 b=>absurd (jF.2 ⟨k0,k1⟩) b,λi hi e=>?_,λi hi e _=>?_⟩
 .have a:=jF.1 hi;rw[d i a.1 a.2]at e;rw[hV i a.1 a.2];exact⟨gf,.inl ⟨by simpa using e,rfl⟩⟩
 .have a:=jF.1 hi;rw[d i a.1 a.2]at e;refine⟨by simpa using e,λk b _ _=>by rw[hV k (gQ i hi k b).1 (gQ i hi k b).2];simp,λh _=>?_⟩;have m:=ao.2 h;have c:=gF (l:=gt (gy g l) i) (n:=0) U U;exact⟨_,c,by rw[hV _ (gQ i hi _ c).1 (gQ i hi _ c).2];simp⟩
theorem KI.nn{n:Int}{v:List Kn}(h:KI g l n v){k:Int}(k0:0<=k)(k1:k<l.l)(e:(gt v k).2.2=cp):0<=(gt v k).2.1:=by
 have k2:k<v.l:=by rw[h.len];exact k1
 have:=(h.fi.dec k (jF.2 ⟨k0,k1⟩) (by rw[yh k0 k2,e];rfl)).1.1;rwa [CE k0 k2]at this
theorem KI.ne{n:Int}{v:List Kn}(b:mY g l)(h:KI g l n v)(n0:0<n){k:Int}(k0:0<=k)(k1:k<l.l)(e:(gt v k).2.2=bb):gt (gy g l) k≠[]:=λa=>by
 have k2:k<v.l:=by rw[h.len];exact k1
 have:=(h.fi.DC k (jF.2 ⟨k0,k1⟩) (by rw[yh k0 k2,e];rfl) n0).1;rw[(oN b k0 k1).1,eh]at a;unfold stat at this;simp[a]at this
theorem KI.step(hg:gZ g)(m:mY g l){n:Int}{v now:List Kn}(h:KI g l n v)(n1:1<=n)(hl:now.l=l.l)
  (q:∀k:Int,0<=k->k<l.l->gt now k=if (gt v k).2.2=bb then qz v (gt (gy g l) k) n else gt v k):KI g l (n+1) now:=by
 have o:=Yx hg m;have s:=h.fi.vl;have p:=h.fi.bl;have hs:=h.fi.step (v0:=[]) o (λk k0 k1=>(eu 0:0<=(gt ([]:List gj) k).2)) (by omega:0<=n)
 have d:∀k:Int,0<=k->k<l.l->(k∈uV g l (gy g l) (upto l.l) (kV v) (kB v) n↔(gt v k).2.2=bb/\(rh g (gt l k) (kV v) (kB v) (gt (gy g l) k) n).2=cp):=λk k0 k1=>by
  have k2:k<v.l:=by rw[h.len];exact k1
  unfold uV Us;rw[aO,ai,yh k0 k2,jF];simp only[et];exact⟨λa=>⟨a.2.2,a.2.1⟩,λa=>⟨⟨k0,k1⟩,a.2,a.1⟩⟩
 have j:∀k:Int,0<=k->k<l.l->(gt v k).2.2=bb->((rh g (gt l k) (kV v) (kB v) (gt (gy g l) k) n).2=cp->qz v (gt (gy g l) k) n=((rh g (gt l k) (kV v) (kB v) (gt (gy g l) k) n).1.1,(rh g (gt l k) (kV v) (kB v) (gt (gy g l) k) n).1.2,cp))/\((rh g (gt l k) (kV v) (kB v) (gt (gy g l) k) n).2=bb->qz v (gt (gy g l) k) n=(0,0,bb)):=λk k0 k1 e=>by
  have r:=ao.2 (h.ne m U k0 k1 e);unfold rh qz;rw[if_neg U]
  by_cases i:Ds (kV v) (kB v) (gt (gy g l) k) n
  .rw[if_pos i,if_pos i];exact⟨λ_=>rfl,λe=>by cases e⟩
  .rw[if_neg i,if_neg i];simp only[decide_eq_true_eq,decide_eq_false_iff_not];exact⟨λa=>by rw[if_pos ⟨a.2.1,a.2.2⟩],λa=>by rw[if_neg λb=>a ⟨r,b⟩]⟩
 refine⟨hl,hs.congr m (by rw[aau,hl]) (by rw[aat,hl]) (λk k0 k1=>?_) λk k0 k1 e=>?_⟩
 .have k2:k<now.l:=by rw[hl];exact k1
  have k3:k<v.l:=by rw[h.len];exact k1
  rw[yh k0 k2,R8 o p k0 k1,q k k0 k1,yh k0 k3]
  by_cases e:(gt v k).2.2=bb
  .rw[if_pos e]
   by_cases c:(rh g (gt l k) (kV v) (kB v) (gt (gy g l) k) n).2=cp
   .rw[(j k k0 k1 e).1 c,if_pos ((d k k0 k1).2 ⟨e,c⟩)];rfl
   .rw[(j k k0 k1 e).2 (by simpa using c),if_neg λa=>c ((d k k0 k1).1 a).2,e]
  .rw[if_neg e,if_neg λa=>e ((d k k0 k1).1 a).1]
 .have k2:k<now.l:=by rw[hl];exact k1
  have k3:k<v.l:=by rw[h.len];exact k1
  rw[R8 o p k0 k1,yh k0 k3]at e;rw[CE k0 k2,YR o s p k0 k1,q k k0 k1,CE k0 k3]
  by_cases f:(gt v k).2.2=bb
  .rw[if_pos f]
   by_cases c:(rh g (gt l k) (kV v) (kB v) (gt (gy g l) k) n).2=cp
   .rw[(j k k0 k1 f).1 c,if_pos ((d k k0 k1).2 ⟨f,c⟩)];rfl
   .rw[if_neg λa=>c ((d k k0 k1).1 a).2,f]at e;cases e
  .rw[if_neg f,if_neg λa=>f ((d k k0 k1).1 a).1]
theorem KI.done(hg:gZ g)(q:mY g l){v:List Kn}(h:KI g l (l.l+1) v){out:List gj}(hl:out.l=l.l)
  (r:∀k:Int,0<=k->k<l.l->gt out k=if (gt v k).2.2=cp then((gt v k).1,(gt v k).2.1)else(2,0)):∀k:Int,0<=k->k<l.l->lY (iv g l (gy g l)) out k:=by
 have o:=Yx hg q;have gQ:=λ(i:Int) (hi:i∈upto l.l)=>(oN q (jF.1 hi).1 (jF.1 hi).2).2
 have t:=Wy (n:=l.l) (N:=λi=>(gt (kV v) i).2) (K:=λi=>i∈upto l.l/\gt (kB v) i=bb) (λi hi=>⟨jF.1 hi.1,(h.fi.dec i hi.1 hi.2).1.1⟩) (λi hi=>by
  rcases(h.fi.dec i hi.1 hi.2).2 with⟨_,c⟩|⟨_,⟨m,m1,c2,⟨k,b,j,f⟩,_⟩|⟨m,m1,c2,j,k,b,f⟩⟩
  .left;show(gt (kV v) i).2=0;rw[c]
  .right;exact⟨k,⟨jF.2 (gQ i hi.1 k b),j⟩,by show(gt (kV v) k).2=(gt (kV v) i).2-1;rw[c2,f]⟩
  .right;exact⟨k,⟨jF.2 (gQ i hi.1 k b),(j k b).1⟩,by show(gt (kV v) k).2=(gt (kV v) i).2-1;rw[c2,f]⟩)
 have s:=agH o U h.fi (λk k0 k1 e _=>by have:=t k ⟨jF.2 ⟨k0,k1⟩,e⟩;omega);obtain⟨_,f2⟩:=Yi o h.fi.vl h.fi.bl
 have p:∀k:Int,0<=k->k<l.l->gt out k=gt (yf (upto l.l) (kV v) (kB v)).1 k:=λk k0 k1=>by
  have k2:k<v.l:=by rw[h.len];exact k1
  rw[r k k0 k1,(f2 k k0 k1).1,yh k0 k2,CE k0 k2]
  by_cases e:(gt v k).2.2=cp
  .rw[if_pos e,if_neg λa=>by rw[e]at a;exact absurd a.2 gf]
  .rw[if_neg e,if_pos ⟨jF.2 ⟨k0,k1⟩,by simpa using e⟩]
 exactλi i0 d=>(s i (jF.2 ⟨i0,d⟩)).congr (p i i0 d) λk b=>p k (gQ i (jF.2 ⟨i0,d⟩) k b).1 (gQ i (jF.2 ⟨i0,d⟩) k b).2
end
def ag3{α:Type}[Inhabited α]{l:List α}{x:α}{n:Int}(h:n.n=l.l):gt (l ++ [x]) n=x:=by unfold gt;rw[di,ak U,h,b7];rfl
def agx(g:gv)(hg:gZ g)(l:List Pos)(hl:mY g l)(M:0<l.l):Wf T 71 [dG g,gT l,.sl 1 ((gy g l).map fI)] [] (Ey iu λr=>r.l=l.l/\∀k:Int,0<=k->k<l.l->lY (iv g l (gy g l)) r k):=by
 have E:=hl.len;have L:(gy g l).l=l.l:=by simp[gy]
 refine Yg MV ?_;simp[MV];refine Yn (agB g hg l hl) ?_;simp;have P:(l.map (oT g)).l=l.l:=gf;have N:=KI.start hl;generalize Q:l.map (oT g)=v0 at *;refine gx.e ((1,cp,l.l,v0):Int×Bool×Nat×List Kn) (λy=>[(1,gT l),(2,.sl 1 ((gy g l).map fI)),(7,.gh (if y.2.1 then 1 else 2) y.2.2.1 3 0 l.l),(8,.i y.1)]) (λy=>.row 43 0 g.cells :: .row 245 l.l (cl fK v0)::(if y.2.1 then []else [.row 245 y.2.2.1 (cl fK y.2.2.2)])) (λy=>1<=y.1/\y.1<=l.l+1/\KI g l y.1 y.2.2.2/\(y.2.1=cp->y.2.2.1=l.l/\y.2.2.2=v0/\y.1=1)) (λy=>l.l+1-y.1.n) ?_ ?_
 .grind
 rintro⟨n,b,q,v⟩ ⟨n0,n1,m,B⟩;dsimp only at n0 n1 m B ⊢;have n2:=m.len
 have G:∀i:Int,0<=i->i<l.l->∀k∈gt (gy g l) i,0<=k/\k<v.l:=λi a c k p=>by have:=(oN hl a c).2 k p;omega
 have D:∀i:Int,0<=i->i<l.l->(gt (gy g l) i).l<2 ^ 40:=λi a c=>by rw[(oN hl a c).1,aE];have:=wG hg (hl.ok _ (gF a c));omega
 have A:∀i:Int,0<=i->i<l.l->∀k∈gt (gy g l) i,(gt v k).2.2=cp->0<=(gt v k).2.1:=λi a c k p e=>m.nn ((oN hl a c).2 k p).1 ((oN hl a c).2 k p).2 e;have u:∀i:Int,0<=i->i<l.l->(gt v i).2.2=bb->0<(gt (gy g l) i).l:=λi a c e=>ao.2 (m.ne hl U a c e);cases b
 .simp;refine kz ?_ ?_<;>intro h
  .refine gx.e ((0,v):Int×List Kn) (λy=>[(1,gT l),(2,.sl 1 ((gy g l).map fI)),(7,.gh 2 q 3 0 l.l),(8,.i n),(9,.gh 3 1 3 0 l.l),(10,.i y.1)]) (λy=>[.row 43 0 g.cells,.row 245 l.l (cl fK v0),.row 245 q (cl fK v),.row 245 1 (cl fK y.2)]) (λy=>0<=y.1/\y.1<=l.l/\y.2.l=l.l/\∀k:Int,0<=k->k<l.l->gt y.2 k=if k<y.1/\(gt v k).2.2=bb then qz v (gt (gy g l) k) n else gt v k) (λy=>l.l-y.1.n) ?_ ?_
   .grind
   rintro⟨j,now⟩ ⟨j0,j1,j2,j3⟩;dsimp only at j0 j1 j2 j3 ⊢;simp;(with_reducible repeat' first|refine Xk ?_<;>try simp|refine Xs ?_ ?_<;>intro h<;>(try intro F)<;>(try simp[h])<;>try omega|refine Xg ?_|omega)
   .refine LJ.e (j+1,now) ?_;refine ic ⟨j2,λk k0 k1=>?_⟩;dsimp only;rw[j3 k k0 k1]
    by_cases e:k=j
    .grind
    .grind
   .refine gE.r rfl rfl (Yd v _ n U (u j j0 ‹_› ‹_›) (D j j0 ‹_›) (G j j0 ‹_›) (A j j0 ‹_›)) (by simp[n2]) (by simp[flat,tI]) gf ?_;simp;refine gi ?_;have d:=NR (f:=fK) now j U (qz v (gt (gy g l) j) n);rw[EO]at d;refine LJ.i (j+1,pt now j (qz v (gt (gy g l) j) n)) (by first|rfl|simp[<-d]) (by first|rfl|simp[<-d]) rfl rfl ?_;have I:=jg (l:=now) (n:=j) (v:=qz v (gt (gy g l) j) n) j0 U;refine BE (λk k0 k1=>?_);dsimp only;rw[qj j0 U k0,j3 k k0 k1]
    by_cases e:k=j
    .grind
    .grind
   .refine LJ.e (n+1,bb,1,now) ?_;refine ic ⟨?_,λh=>by cases h⟩;refine m.step hg hl n0 j2 λk k0 k1=>?_;rw[j3 k k0 k1];simp only[(U:k<j),true_and]
  .have t:n=l.l+1:=by omega
   subst t;refine gx.e ((0,v,[]):Int×List Kn×List gj) (λy=>[(1,gT l),(7,.gh 2 q 3 0 l.l),(11,.gh 3 y.2.2.l 2 0 y.2.2.l),(12,.i y.1)]) (λy=>[.row 43 0 g.cells,.row 245 l.l (cl fK v0),.row 245 q (cl fK y.2.1),.row 86 y.2.2.l (cl fS y.2.2)]) (λy=>0<=y.1/\y.1<=l.l/\y.2.1.l=l.l/\y.2.2.l=y.1.n/\(∀k:Int,0<=k->k<y.1->gt y.2.2 k=if (gt v k).2.2=cp then((gt v k).1,(gt v k).2.1)else(2,0))/\(∀k:Int,y.1<=k->k<l.l->gt y.2.1 k=gt v k)) (λy=>l.l-y.1.n) ?_ ?_
   .grind
   rintro⟨j,w,out⟩ ⟨j0,j1,j2,j3,j4,j5⟩;dsimp only at j0 j1 j2 j3 j4 j5 ⊢
   by_cases s:j<l.l
   .have d:=ad7 (l:=w) (n:=j) U 2 0;have C:∀v,(pt w j v).l=w.l:=λv=>jg j0 U;have H:∀v,gt (pt w j v) j=v:=λv=>ES j0 U;have o:=j5 j U s
    have z:∀(x:gj),((gt v j).2.2=cp->x=((gt v j).1,(gt v j).2.1))->((gt v j).2.2=bb->x=(2,0))->∀k:Int,0<=k->k<j+1->gt (out ++ [x]) k=if (gt v k).2.2=cp then((gt v k).1,(gt v k).2.1)else(2,0):=λx K J k k0 k1=>by
     by_cases e:k=j
     .subst e;rw[ag3 U]
      by_cases O:(gt v k).2.2=cp
      .grind
      .grind
     .rw[ag0 U U];exact j4 k k0 U
    simp[s,d];refine adn d C H ?_ ?_<;>intro h
    .refine LJ.e (j+1,w,out ++ [((gt w j).1,(gt w j).2.1)]) ?_;rw[o]at *;refine⟨gI,gI,gI,gI,gO,z _ (λ_=>rfl) (λe=>by simp[*]at e),λk k0 k1=>j5 k (by dsimp only at k0;omega) k1⟩
    .refine LJ.e (j+1,pt w j (2,0,bb),out ++ [(2,0)]) ?_;rw[o]at *;refine⟨gI,gI,gI,by dsimp only;rw[C];omega,gO,z _ (λe=>by simp[*]at e) (λ_=>rfl),λk k0 k1=>?_⟩;dsimp only at k0 ⊢;rw[qj j0 U U,if_neg U];exact j5 k U k1
   .simp[s];exact Ey.i out rfl rfl ⟨U,m.done hg hl U λk k0 k1=>j4 k k0 U⟩
 .obtain⟨rfl,rfl,rfl⟩:=B rfl;simp;(with_reducible repeat' first|refine Xk ?_<;>try simp|refine Xs ?_ ?_<;>intro h<;>(try intro F)<;>(try simp[h])<;>try omega|refine Xg ?_|omega)
  .refine gx.e ((0,v):Int×List Kn) (λy=>[(1,gT l),(2,.sl 1 ((gy g l).map fI)),(7,.gh 1 l.l 3 0 l.l),(8,.i 1),(9,.gh 2 1 3 0 l.l),(10,.i y.1)]) (λy=>[.row 43 0 g.cells,.row 245 l.l (cl fK v),.row 245 1 (cl fK y.2)]) (λy=>0<=y.1/\y.1<=l.l/\y.2.l=l.l/\∀k:Int,0<=k->k<l.l->gt y.2 k=if k<y.1/\(gt v k).2.2=bb then qz v (gt (gy g l) k) 1 else gt v k) (λy=>l.l-y.1.n) ?_ ?_
   .grind
   rintro⟨j,now⟩ ⟨j0,j1,j2,j3⟩;dsimp only at j0 j1 j2 j3 ⊢;simp;(with_reducible repeat' first|refine Xk ?_<;>try simp|refine Xs ?_ ?_<;>intro h<;>(try intro F)<;>(try simp[h])<;>try omega|refine Xg ?_|omega)
   .refine LJ.e (j+1,now) ?_;refine ic ⟨j2,λk k0 k1=>?_⟩;dsimp only;rw[j3 k k0 k1]
    by_cases e:k=j
    .grind
    .grind
   .refine gE.r rfl rfl (Yd v _ 1 U (u j j0 ‹_› ‹_›) (D j j0 ‹_›) (G j j0 ‹_›) (A j j0 ‹_›)) (by simp[n2]) (by simp[flat,tI]) gf ?_;simp;refine gi ?_;have d:=NR (f:=fK) now j U (qz v (gt (gy g l) j) 1);rw[EO]at d;refine LJ.i (j+1,pt now j (qz v (gt (gy g l) j) 1)) (by first|rfl|simp[<-d]) (by first|rfl|simp[<-d]) rfl rfl ?_;have I:=jg (l:=now) (n:=j) (v:=qz v (gt (gy g l) j) 1) j0 U;refine BE (λk k0 k1=>?_);dsimp only;rw[qj j0 U k0,j3 k k0 k1]
    by_cases e:k=j
    .grind
    .grind
   .refine LJ.e (1+1,bb,1,now) ?_;refine ic ⟨?_,λh=>by cases h⟩;refine m.step hg hl U j2 λk k0 k1=>?_;rw[j3 k k0 k1];simp only[(U:k<j),true_and]
def agp(g:gv)(hg:gZ g)(l:List Pos)(hl:mY g l)(b:0<l.l):Wf T 25 [dG g,gT l] [] (Ey (λx:List gj×List Int=>.agg [iu x.1,dI x.2,.i 0]) λx=>x.1.l=l.l/\∀k:Int,0<=k->k<l.l->lY (iv g l (gy g l)) x.1 k):=by refine Yg LN ?_;simp[LN];refine Yc (f37 g hg l hl) ?_;simp;refine Yq (agx g hg l hl b) λv a=>?_;simp;refine Yq (f39 g hg l hl v a.1) λf c=>?_;simp;exact Ey.i (v,f) rfl rfl a
end Go.Proofs.YtmehofoficaelaaGreatDoor
namespace Go.Proofs.YtmehofoficaelaaGreatDoor
open Go Go.AL
def Br:List Int:=[1116352408,1899447441,3049323471,3921009573,961987163,1508970993,2453635748,2870763221,3624381080,310598401,607225278,1426881987,1925078388,2162078206,2614888103,3248222580,3835390401,4022224774,264347078,604807628,770255983,1249150122,1555081692,1996064986,2554220882,2821834349,2952996808,3210313671,3336571891,3584528711,113926993,338241895,666307205,773529912,1294757372,1396182291,1695183700,1986661051,2177026350,2456956037,2730485921,2820302411,3259730800,3345764771,3516065817,3600352804,4094571909,275423344,430227734,506948616,659060556,883997877,958139571,1322822218,1537002063,1747873779,1955562222,2024104815,2227730452,2361852424,2428436474,2756734187,3204031479,3329325298]
def CI:List Int:=[1779033703,3144134277,1013904242,2773480762,1359893119,2600822924,528734635,1541459225]
def tn(n x:Int):Int:=bits .or .u32 (nu .u32 x n) (zY .u32 x (32-n))
def xr(a b:Int):Int:=bits .xor .u32 a b
def ad(a b:Int):Int:=IntKind.u32.wrap (a+b)
def mx(x a b c:Int):Int:=xr (xr (tn a x) (tn b x)) (tn c x)
def wp(w:List Int)(n:Nat)(b:Int):List Int:=pt w (n / 4:Nat) (bits .or .u32 (zY .u32 (gt w (n / 4:Nat)) 8) b)
def QN(b:List Int):Nat->List Int
 | 0=>dx 64 0
 | n+1=>wp (QN b n) n (IntKind.u32.wrap (gt b n))
@[irreducible] def w1(b:List Int)(n:Nat):List Int:=QN b n
def wn(w:List Int)(t:Nat):List Int:=pt w t (ad (ad (ad (gt w (t-16:Nat)) (gt w (t-7:Nat))) (xr (xr (tn 7 (gt w (t-15:Nat))) (tn 18 (gt w (t-15:Nat)))) (nu .u32 (gt w (t-15:Nat)) 3)))
 (xr (xr (tn 17 (gt w (t-2:Nat))) (tn 19 (gt w (t-2:Nat)))) (nu .u32 (gt w (t-2:Nat)) 10)))
def QO(w:List Int):Nat->List Int
 | 0=>w
 | m+1=>wn (QO w m) (m+16)
@[irreducible] def w2(w:List Int)(n:Nat):List Int:=QO w n
@[irreducible] def wO(b:List Int):List Int:=w2 (w1 b 64) 48
def BH(c:List Int)(k w:Int):List Int:=match c with
 | [c0,c1,c2,c3,c4,c5,c6,c7]=>
  let x:=ad (ad (ad (ad c7 (mx c4 6 11 25)) (xr (bits .and .u32 c4 c5) (bits .and .u32 (bits .xor .u32 IntKind.u32.max c4) c6))) k) w
  let y:=ad (mx c0 2 13 22) (xr (xr (bits .and .u32 c0 c1) (bits .and .u32 c0 c2)) (bits .and .u32 c1 c2))
  [ad x y,c0,c1,c2,ad c3 x,c4,c5,c6]
 | _=>[]
def P'(w c:List Int):Nat->List Int
 | 0=>c
 | n+1=>BH (P' w c n) (gt Br n) (gt w n)
@[irreducible] def tA(w c:List Int)(n:Nat):List Int:=P' w c n
@[irreducible] def uQ(s b:List Int):List Int:=List.zipWith ad (tA (wO b) s 64) s
def NF(b:List Int)(s:List Int):Nat->List Int
 | 0=>s
 | n+1=>uQ (NF b s n) ((b.drop (64*n)).take 64)
@[irreducible] def rH(b s:List Int)(n:Nat):List Int:=NF b s n
def BF(n:Nat):Nat:=63-(n+8) % 64
def yY(n:Int):List Int:=[56,48,40,32,24,16,8,0].map λs:Int=>IntKind.u8.wrap (nu .u64 n s)
@[irreducible] def pad(b:List Int):List Int:=b++128::(dx (BF b.l) 0++yY (8*b.l))
@[irreducible] def zV(s:List Int):List Int:=(upto 32).map λi=>IntKind.u8.wrap (nu .u32 (gt s (i / 4)) (24-8*(i % 4)))
@[irreducible] def lh(b:List Int):List Int:=zV (rH (pad b) CI ((pad b).l / 64))
def uo(n:Nat):Nat:=2 ^ (Nat.log2 (n-1))
def Gb:Nat->List (List Int)->List Int
 | 0,_=>[]
 | _+1,[]=>lh []
 | _+1,[x]=>lh (0::x)
 | k+1,l=>lh (1::(Gb k (l.take (uo l.l))++Gb k (l.drop (uo l.l))))
@[irreducible] def pJ(k:Nat)(l:List (List Int)):List Int:=Gb k l
def s7(r:gj):List Int:=IntKind.u8.wrap r.1 :: [24,16,8,0].map λs:Int=>IntKind.u8.wrap (nu .i64 r.2 s)
