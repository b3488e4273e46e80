/- 20 -/
import Derived.Test.YtmehofoficaelaaGreatDoorP18
set_option linter.all false
open List renaming range→aE,all_eq_true→bf,range'→cc,countP_nil→cp,replicate→di,length→List.l
namespace Go.AL
open Go
@[simp] theorem aD4(n v:Nat):kz n (.jF v)=decide (v<n):=rfl
@[simp] theorem aD8(n v:Nat):oP n (.jF v)=decide (v<n):=rfl
@[simp] theorem aDZ(n:Nat)(cs:List D):kz n (.ie cs)=cs.all (oP n):=rfl
@[simp] theorem aCr(n:Nat):pj n .jJ=true:=rfl
@[simp] theorem aCt(n rf:Nat)(e:Env)(st:sx):pj n (.iV rf e st)=e.all λx=>kz n x.2:=rfl
theorem acr{n m:Nat}(h:n<=m):jx n (cc n (m-n))=jx m []:=by unfold jx;rw[List.map_nil,az,<-List.map_append,cy,cy];congr 1;have:=List.range'_append (s:=0) (m:=n) (n:=m-n) (step:=1);simp only[Nat.one_mul,aR]at this;rw[this];congr 1;omega
def ahc{n:Nat}{live:List Nat}{env:Env}{H:gQ}{r:Bool}(c:n<=H.l)(b:((forget live env).all λp=>kz n p.2)=true)
  (d:dedup (((H.take n).map (pg n)).flatten.filter (· < H.l))=cc n (H.l-n)) (e:jZ H.l H):cut n live { env:=env,H:=H,marks:=[],iI:=r } = { env:=forget live env,H:=H,marks:=[],iI:=r }:=by
 by_cases h:H.l<=n\/vD live=true
 .unfold cut;dsimp only;rw[if_pos h]
 .unfold cut;dsimp only;rw[if_neg h];have f:((forget live env).map λp=>jQ n p.2).flatten = []:=flatten_nil λp a=>SQ (bf.1 b p a);rw[f,dD,az,aS,d,acr c];have e2:=LZ (n:=H.l) (H:=H) (G:=[]) rfl e;rw[az]at e2;rw[e2];congr 1
  conv=>rhs;rw[<-bn (forget live env)]
  exact au λp a=>by rw[HP (n:=n) (λu g=>HJ U) (bf.1 b p a)];rfl
def aly{n:Nat}{H:gQ}{d:D}(a:n<=H.l)(c:kz n d=true)
  (b:dedup (((H.take n).map (pg n)).flatten.filter (· < H.l))=cc n (H.l-n)) (e:jZ H.l H):leave 0 n H d=(d,H):=by
 by_cases h:H.l<=n
 .exact acI h 0
 .unfold leave;rw[if_neg U];simp only[aS];rw[b,acr a];have e2:=LZ (n:=H.l) (H:=H) (G:=[]) rfl e;rw[az]at e2;rw[e2,HP (n:=n) (λu f=>HJ U) c]
def Sx:Option Nat->D
 | some v'=>.jF v'
 | none=>.any
@[simp] theorem aDI(v:Nat):Sx (some v) = .jF v:=rfl
@[simp] theorem aDH:Sx none = .any:=rfl
@[simp] theorem aDV(ρ:Nat->Option Nat)(H:gQ)(k v:Nat):ib ρ H (k+1) (.jF v)=Sx (ρ v):=by rw[ib,if_neg (by simp[closed])];unfold Sx;rfl
@[simp] theorem ays(l:List iJ):closed (dN 6 iJ.cells l)=true:=Db (λa=>by simp[iB]) l
end Go.AL
namespace Go.Proofs.YtmehofoficaelaaGreatDoor
open Go Go.AL Classical
set_option maxRecDepth 10000
set_option maxHeartbeats 4000000
def TS{a b:List Int}(hl:a.l=b.l)(h:∀k:Int,0<=k->k<a.l->gt a k=gt b k):a=b:=
 bH hl λi h1 c=>by have:=h i U U;simpa[gt,h1,c]using this
noncomputable def sA(cs:List Int)(side:Int)(K:Nat):List Int:=(upto K).map λk=>(cs.countP λc=>decide (nc side k c):Nat)
@[simp] theorem ayK(cs:List Int)(side:Int)(K:Nat):(sA cs side K).l=K:=by simp[sA,upto]
theorem Bq{cs:List Int}{side:Int}{K:Nat}{k:Int}(h0:0<=k)(h:k<K):gt (sA cs side K) k=(cs.countP λc=>decide (nc side k c):Nat):=by have h1:k.toNat<K:=U;simp[sA,upto,gt,h1,Int.toNat_of_nonneg h0]
def agX{cs:List Int}{side:Int}{K:Nat}{c:Int}(d:0<c/\c<=12)(a:(c-1) / 2<K)(hs:(c-1) % 2=side):pt (sA cs side K) ((c-1) / 2) (gt (sA cs side K) ((c-1) / 2)+1)=sA (cs ++ [c]) side K:=by
 have h0:0<=(c-1) / 2:=U;have hl:=jy (l:=sA cs side K) (n:=(c-1) / 2) (v:=gt (sA cs side K) ((c-1) / 2)+1) h0 (by simpa using a);refine TS (by rw[hl];simp) λk k0 k1=>?_;rw[hl]at k1;simp at k1;have b:iC c=(c-1) / 2/\lg c=side:=by unfold iC lg;rw[if_pos U,if_pos U];exact⟨rfl,hs⟩
 rw[mY h0 (by simpa using a) k0,Bq (cs:=cs ++ [c]) k0 k1,dQ];simp only[b7,cp,nc,b.1,b.2];split
 .rename_i e;subst e;rw[Bq h0 a];simp[h0,nc]
 .rename_i e;rw[Bq k0 k1];simp[nc];rw[if_neg U];simp
def ZR{cs:List Int}{side:Int}{K:Nat}{c:Int}(h:c<=0\/(c-1) % 2≠side):sA cs side K=sA (cs ++ [c]) side K:=by
 refine TS gP λk k0 k1=>?_;simp at k1;rw[Bq k0 k1,Bq k0 k1,dQ];simp only[b7,cp,nc]
 have:¬(0<=iC c/\lg c=side/\(k<0\/iC c=k)):=by
  unfold iC lg;split
  .omega
  .omega
 simp[this]
def agY(side:Int)(K:Nat):sA [] side K=di K 0:=by refine TS gP λk k0 k1=>?_;simp at k1;rw[Bq k0 k1];have:k.toNat<K:=U;simp[gt,this]
def f295(g:gY)(hg:iE g)(p:Pos)(m:ja g p)(side:Int)(hs:0<=side/\side<=1):Wf T 365 [dG g,dP p,.i side] [] (Is (dI (sA p.cs side g.kinds.l))):=by
 have r:=m.size;have u:=hg.kC.size;have s:=hg.kinds;refine Yg OT ?_;simp[OT];refine gU ?_;refine gZ.e ((0,di g.kinds.l 0):Int×List Int) (λy=>[(2,.i side),(7,.gR 2 0 1 0 g.kinds.l),(15,dI p.cs),(16,.i p.cs.l),(17,.i y.1)]) (λy=>[.row 43 0 g.cells,.row 46 0 p.cells,.row 3 0 (cl f1 y.2)]) (λy=>0<=y.1/\y.1<=p.cs.l/\y.2=sA (p.cs.take y.1.toNat) side g.kinds.l) (λy=>(p.cs.l-y.1).toNat) ?_ ?_
 .simp[agY]
 rintro⟨i,cn⟩ ⟨i0,n,d⟩;dsimp only at i0 n d ⊢;have q:cn.l=g.kinds.l:=by rw[d];simp
 by_cases hi:i<p.cs.l
 .have t:=m.cs _ (ij i0 hi);have j:=jP i0 hi;have f:=kK (a:=gt p.cs i-1) (b:=2)
  by_cases h:0<gt p.cs i
  .have f:=f U;have k:=xq (a:=gt p.cs i-1) (b:=2) U U U
   by_cases e:(gt p.cs i-1) % 2=side
   .have o:gt cn ((gt p.cs i-1) / 2)<=9/\0<=gt cn ((gt p.cs i-1) / 2):=by rw[d,Bq U U];have:=db (p:=λc=>decide (nc side ((gt p.cs i-1) / 2) c)) (l:=p.cs.take i.toNat);rw[aM]at this;omega
    simp[hi,h,f,k,e];refine kf f k e ?_;refine LJ.e (i+1,pt cn ((gt p.cs i-1) / 2) (gt cn ((gt p.cs i-1) / 2)+1)) ?_;refine iQ ?_;dsimp only;rw[j,d];exact agX U U e
   .simp[hi,h,f,e];refine ko f e ?_;refine LJ.e (i+1,cn) ?_;refine iQ ?_;dsimp only;rw[j,d];exact ZR (.inr e)
  .simp[hi,h];refine gU ?_;refine LJ.e (i+1,cn) ?_;refine iQ ?_;dsimp only;rw[j,d];exact ZR U
 .simp[hi];rw[d,nf U,uX gP];rfl
theorem ZS{side:Int}{K:Int}(d:1<=K/\K<=2):∀ {cs:List Int},(∀c∈cs,0<=c/\c<=2*K)->(cs.countP λc=>decide (nc side (-1) c))=(cs.countP λc=>decide (nc side 0 c))+(if K=2 then cs.countP λc=>decide (nc side 1 c)else 0)
 | [],_=>gP
 | c::cs,h=>by
  have f:=h c gP;have a:=ZS (side:=side) d (cs:=cs) λx b=>h x (by simp[b]);simp only[b7,a]
  have e:(if decide (nc side (-1) c)=true then 1 else 0)=(if decide (nc side 0 c)=true then 1 else 0)+(if K=2 then(if decide (nc side 1 c)=true then 1 else 0)else 0):=by
   unfold nc;simp only[decide_eq_true_eq]
   by_cases h1:1<=c/\c<=12
   .have:iC c=(c-1) / 2:=by unfold iC;rw[if_pos h1]
    rw[this]
    by_cases hs:lg c=side
    .grind
    .simp[hs]
   .have:iC c = -1:=by unfold iC;rw[if_neg h1]
    simp[this]
  rw[e];split<;>omega
def f294(g:gY)(hg:iE g)(p:Pos)(a:ja g p)(c:Clause)(b:0<=c.kind/\c.kind<g.kinds.l):Wf T 364 [dG g,dP p,.agg c.cells] [] (Is (.b (decide (uE p p.side c.kind=0)))):=by have hs:=a.side;refine Yg OS ?_;simp[OS];refine Yt (f295 g hg p a p.side hs) ?_;simp;simp[Bq b.1 b.2,<-WC];exact oS
def f296(g:gY)(hg:iE g)(p:Pos)(a:ja g p)(c:Clause)(f:0<=c.kind/\c.kind<g.kinds.l)(d:0<=c.n/\c.n<g.size):Wf T 366 [dG g,dP p,.agg c.cells] [] (Is (.b (decide (gt p.cs c.n=lQ c.kind (1-p.side))))):=by have hs:=a.side;have b:=a.size;have e:=hg.kinds;refine Yg OU ?_;simp[OU];refine gU ?_;refine Yt (f92 (k:=c.kind) (s:=1-p.side) U U U U) ?_;simp;simp[lQ]
def agV(cs:List Int)(side:Int):sA cs side 1 = [((cs.countP λc=>decide (nc side 0 c):Nat):Int)]:=by simp[sA,upto,aE,aE.loop]
def agW(cs:List Int)(side:Int):sA cs side 2 = [((cs.countP λc=>decide (nc side 0 c):Nat):Int),(cs.countP λc=>decide (nc side 1 c):Nat)]:=by simp[sA,upto,aE,aE.loop]
def f297(g:gY)(hg:iE g)(p:Pos)(b:ja g p)(c:Clause):Wf T 367 [dG g,dP p,.agg c.cells] [] (Is (.b (decide (uE p p.side (-1)<=c.n)))):=by
 have hs:=b.side;have j:=b.size;have m:=hg.kC.size;have k:=hg.kinds;have f:=ZS (side:=p.side) (K:=g.kinds.l) U (cs:=p.cs) b.cs;have i:=db (p:=λc=>decide (nc p.side 0 c)) (l:=p.cs);have h:=db (p:=λc=>decide (nc p.side 1 c)) (l:=p.cs);rw[WC,f];refine Yg OV ?_;simp[OV];refine Yc (f295 g hg p b p.side hs) ?_;simp;rcases(U:g.kinds.l=1\/g.kinds.l=2)with e|e
 .rw[e,agV];simp;generalize (p.cs.countP λc=>decide (nc p.side 0 c))=n0 at *;have a:gt [(n0:Int)] 0=n0:=rfl;refine gZ.un ?_;refine kT.u ?_;simp[a];refine jM a ?_;refine kT.u ?_;simp[a]
 .rw[e,agW];simp;generalize (p.cs.countP λc=>decide (nc p.side 0 c))=n0 at *;generalize (p.cs.countP λc=>decide (nc p.side 1 c))=n1 at *;have a:gt [(n0:Int),n1] 0=n0:=rfl;have d:gt [(n0:Int),n1] 1=n1:=rfl;refine gZ.un ?_;refine kT.u ?_;simp[a];refine jM a ?_;refine kT.u ?_;simp[d];refine jM d ?_;refine kT.u ?_;simp[d]
def f46(g:gY)(hg:iE g)(p:Pos)(j:ja g p):Wf T 113 [dG g,dP p] [] (Ey (λn:Int=>.tup [.i n,.b (decide (ended g p))]) λ_=>True):=by
 have o:=hg.clauses;refine Yg Fz ?_;simp[Fz];refine gZ.e (0:Int) (λy=>[(2,.ptr 0 0 0),(3,.ptr 1 0 0),(9,dN 4 Clause.cells g.clauses),(10,.i g.clauses.l),(11,.i y)]) (λy=>[.row 43 0 g.cells,.row 46 0 p.cells]) (λy=>0<=y/\y<=g.clauses.l/\∀c∈g.clauses.take y.toNat,¬mj p c) (λy=>(g.clauses.l-y).toNat) ?_ ?_
 .simp
 rintro i ⟨i0,q,l⟩
 by_cases hi:i<g.clauses.l
 .have m:=ij i0 hi;have b:=hg.clause _ m;have r:=b.ok;have k:mj p (gt g.clauses i)->decide (ended g p)=true:=λh=>decide_eq_true ⟨_,m,h⟩
  have f:¬mj p (gt g.clauses i)->∀c∈g.clauses.take (i+1).toNat,¬mj p c:=λh c b=>by
   rw[jP i0 hi]at b;rcases ai.1 b with b|b
   .exact l c b
   .grind
  simp[hi];refine gU ?_;rcases(U:(gt g.clauses i).cond=1\/(gt g.clauses i).cond=2\/(gt g.clauses i).cond=3)with e|e|e
  .simp[e];refine Yt (f294 g hg p j ⟨1,(gt g.clauses i).kind,(gt g.clauses i).n,(gt g.clauses i).out⟩ iv) ?_;simp;have d:mj p (gt g.clauses i)=(uE p p.side (gt g.clauses i).kind=0):=by simp[mj,e]
   by_cases a:uE p p.side (gt g.clauses i).kind=0
   .simp[a];exact Ey.i (gt g.clauses i).out (by simp[k (d▸a)]) rfl trivial
   .simp[a];refine gU ?_;refine LJ.e (i+1) ?_;exact iQ (f (d▸a))
  .simp[e];refine Yt (f296 g hg p j ⟨2,(gt g.clauses i).kind,(gt g.clauses i).n,(gt g.clauses i).out⟩ iv iv) ?_;simp;have d:mj p (gt g.clauses i)=(gt p.cs (gt g.clauses i).n=lQ (gt g.clauses i).kind (1-p.side)):=by simp[mj,e]
   by_cases a:gt p.cs (gt g.clauses i).n=lQ (gt g.clauses i).kind (1-p.side)
   .simp[a];exact Ey.i (gt g.clauses i).out (by simp[k (d▸a)]) rfl trivial
   .simp[a];refine gU ?_;refine LJ.e (i+1) ?_;exact iQ (f (d▸a))
  .simp[e];refine Yt (f297 g hg p j ⟨3,(gt g.clauses i).kind,(gt g.clauses i).n,(gt g.clauses i).out⟩) ?_;simp;have d:mj p (gt g.clauses i)=(uE p p.side (-1)<=(gt g.clauses i).n):=by simp[mj,e]
   by_cases a:uE p p.side (-1)<=(gt g.clauses i).n
   .simp[a];exact Ey.i (gt g.clauses i).out (by simp[k (d▸a)]) rfl trivial
   .simp[a];refine gU ?_;refine LJ.e (i+1) ?_;exact iQ (f (d▸a))
 .simp[hi];have:¬ended g p:=λ⟨c,b,h⟩=>l c (by rw[nf U];exact b) h;exact Ey.i 0 (by simp[this]) rfl trivial
