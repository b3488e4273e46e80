/- 20 -/
import Derived.Test.YtmehofoficaelaaGreatDoorV18
set_option linter.all false
open List renaming range→aE,all_eq_true→bb,range'→bs,countP_nil→b4,replicate→cc,length→List.l
namespace Go.AL
open Go
@[simp] theorem ayC(n v:Nat):jG n (.iQ v)=decide (v<n):=rfl
@[simp] theorem ayF(n v:Nat):nk n (.iQ v)=decide (v<n):=rfl
@[simp] theorem ayx(n:Nat)(cs:List D):jG n (.gC cs)=cs.all (nk n):=rfl
@[simp] theorem aw1(n:Nat):nG n .jH=true:=rfl
@[simp] theorem aw3(n rf:Nat)(e:Env)(st:qz):nG n (.iu rf e st)=e.all λx=>jG n x.2:=rfl
theorem Y6{n m:Nat}(h:n<=m):jn n (bs n (m-n))=jn m []:=by unfold jn;rw[List.map_nil,aB,<-List.map_append,cM,cM];congr 1;have:=List.range'_append (s:=0) (m:=n) (n:=m-n) (step:=1);simp only[Nat.one_mul,aR]at this;rw[this];congr 1;omega
def ac8{n:Nat}{live:List Nat}{env:Env}{H:gd}{r:Bool}(f:n<=H.l)(b:((forget live env).all λp=>jG n p.2)=true)
  (d:dedup (((H.take n).map (o9 n)).flatten.filter (· < H.l))=bs n (H.l-n)) (e:jz H.l H):cut n live { env:=env,H:=H,marks:=[],iG:=r } = { env:=forget live env,H:=H,marks:=[],iG:=r }:=by
 by_cases h:H.l<=n\/Cm live=true
 .unfold cut;dsimp only;rw[if_pos h]
 .unfold cut;dsimp only;rw[if_neg h];have g:((forget live env).map λp=>jB n p.2).flatten = []:=flatten_nil λp a=>Pu (bb.1 b p a);rw[g,List.filter_nil,aB,bI,d,Y6 f];have c:=I2 (n:=H.l) (H:=H) (G:=[]) rfl e;rw[aB]at c;rw[c];congr 1
  conv=>rhs;rw[<-aY (forget live env)]
  exact au λp a=>by rw[E9 (n:=n) (λu i=>E5 U) (bb.1 b p a)];rfl
def ag9{n:Nat}{H:gd}{d:D}(f:n<=H.l)(c:jG n d=true)
  (b:dedup (((H.take n).map (o9 n)).flatten.filter (· < H.l))=bs n (H.l-n)) (e:jz H.l H):leave 0 n H d=(d,H):=by
 by_cases h:H.l<=n
 .exact Zm h 0
 .unfold leave;rw[if_neg U];simp only[bI];rw[b,Y6 f];have a:=I2 (n:=H.l) (H:=H) (G:=[]) rfl e;rw[aB]at a;rw[a,E9 (n:=n) (λu g=>E5 U) c]
def O9:Option Nat->D
 | some v'=>.iQ v'
 | none=>.any
@[simp] theorem ayg(v:Nat):O9 (some v) = .iQ v:=rfl
@[simp] theorem ayf:O9 none = .any:=rfl
@[simp] theorem ayt(ρ:Nat->Option Nat)(H:gd)(k v:Nat):gw ρ H (k+1) (.iQ v)=O9 (ρ v):=by rw[gw,if_neg (by simp[closed])];unfold O9;rfl
@[simp] theorem asY(l:List gY):closed (dN 6 gY.cells l)=true:=Bb (λa=>by simp[gK]) l
end Go.AL
namespace Go.Proofs.YtmehofoficaelaaGreatDoor
open Go Go.AL Classical
set_option maxRecDepth 10000
set_option maxHeartbeats 4000000
def Qj{a b:List Int}(hl:a.l=b.l)(h:∀k:Int,0<=k->k<a.l->gt a k=gt b k):a=b:=
 bg hl λi h1 c=>by have:=h i U U;simpa[gt,h1,c]using this
noncomputable def qd(cs:List Int)(side:Int)(K:Nat):List Int:=(upto K).map λk=>(cs.countP λc=>decide (ma side k c):Nat)
@[simp] theorem atf(cs:List Int)(side:Int)(K:Nat):(qd cs side K).l=K:=by simp[qd,upto]
theorem zA{cs:List Int}{side:Int}{K:Nat}{k:Int}(h0:0<=k)(h:k<K):gt (qd cs side K) k=(cs.countP λc=>decide (ma side k c):Nat):=by have h1:k.toNat<K:=U;simp[qd,upto,gt,h1,cd h0]
def acW{cs:List Int}{side:Int}{K:Nat}{c:Int}(d:0<c/\c<=12)(a:(c-1) / 2<K)(hs:(c-1) % 2=side):pt (qd cs side K) ((c-1) / 2) (gt (qd cs side K) ((c-1) / 2)+1)=qd (cs ++ [c]) side K:=by
 have h0:0<=(c-1) / 2:=U;have hl:=iW (l:=qd cs side K) (n:=(c-1) / 2) (v:=gt (qd cs side K) ((c-1) / 2)+1) h0 (by simpa using a);refine Qj (by rw[hl];simp) λk k0 k1=>?_;rw[hl]at k1;simp at k1;have b:gN c=(c-1) / 2/\kh c=side:=by unfold gN kh;rw[if_pos U,if_pos U];exact⟨rfl,hs⟩
 rw[py h0 (by simpa using a) k0,zA (cs:=cs ++ [c]) k0 k1,cV];simp only[cQ,b4,ma,b.1,b.2];split
 .rename_i e;subst e;rw[zA h0 a];simp[h0,ma]
 .rename_i e;rw[zA k0 k1];simp[ma];rw[if_neg U];simp
def Vp{cs:List Int}{side:Int}{K:Nat}{c:Int}(h:c<=0\/(c-1) % 2≠side):qd cs side K=qd (cs ++ [c]) side K:=by
 refine Qj fZ λk k0 k1=>?_;simp at k1;rw[zA k0 k1,zA k0 k1,cV];simp only[cQ,b4,ma]
 have:¬(0<=gN c/\kh c=side/\(k<0\/gN c=k)):=by
  unfold gN kh;split
  .omega
  .omega
 simp[this]
def acX(side:Int)(K:Nat):qd [] side K=cc K 0:=by refine Qj fZ λk k0 k1=>?_;simp at k1;rw[zA k0 k1];have:k.toNat<K:=U;simp[gt,this]
def f295(g:gq)(hg:gR g)(p:Pos)(m:iC g p)(side:Int)(hs:0<=side/\side<=1):Wf T 365 [dG g,dP p,.i side] [] (Is (dI (qd p.cs side g.kinds.l))):=by
 have q:=m.size;have t:=hg.jU.size;have r:=hg.kinds;refine Yg Lz ?_;simp[Lz];refine gh ?_;refine gx.e ((0,cc g.kinds.l 0):Int×List Int) (λy=>[(2,.i side),(7,.gf 2 0 1 0 g.kinds.l),(15,dI p.cs),(16,.i p.cs.l),(17,.i y.1)]) (λy=>[.row 43 0 g.cells,.row 46 0 p.cells,.row 3 0 (cl f1 y.2)]) (λy=>0<=y.1/\y.1<=p.cs.l/\y.2=qd (p.cs.take y.1.toNat) side g.kinds.l) (λy=>(p.cs.l-y.1).toNat) ?_ ?_
 .simp[acX]
 rintro⟨i,cn⟩ ⟨i0,n,d⟩;dsimp only at i0 n d ⊢;have u:cn.l=g.kinds.l:=by rw[d];simp
 by_cases hi:i<p.cs.l
 .have s:=m.cs _ (gF i0 hi);have j:=jt i0 hi;have f:=jM (a:=gt p.cs i-1) (b:=2)
  by_cases h:0<gt p.cs i
  .have f:=f U;have k:=u4 (a:=gt p.cs i-1) (b:=2) U U U
   by_cases e:(gt p.cs i-1) % 2=side
   .have o:gt cn ((gt p.cs i-1) / 2)<=9/\0<=gt cn ((gt p.cs i-1) / 2):=by rw[d,zA U U];have:=dC (p:=λc=>decide (ma side ((gt p.cs i-1) / 2) c)) (l:=p.cs.take i.toNat);rw[aJ]at this;omega
    simp[hi,h,f,k,e];refine nL f k e ?_;refine LJ.e (i+1,pt cn ((gt p.cs i-1) / 2) (gt cn ((gt p.cs i-1) / 2)+1)) ?_;refine gX ?_;dsimp only;rw[j,d];exact acW U U e
   .simp[hi,h,f,e];refine kP f e ?_;refine LJ.e (i+1,cn) ?_;refine gX ?_;dsimp only;rw[j,d];exact Vp (.inr e)
  .simp[hi,h];refine gh ?_;refine LJ.e (i+1,cn) ?_;refine gX ?_;dsimp only;rw[j,d];exact Vp U
 .simp[hi];rw[d,lC U,vx fZ];rfl
theorem Vq{side:Int}{K:Int}(d:1<=K/\K<=2):∀ {cs:List Int},(∀c∈cs,0<=c/\c<=2*K)->(cs.countP λc=>decide (ma side (-1) c))=(cs.countP λc=>decide (ma side 0 c))+(if K=2 then cs.countP λc=>decide (ma side 1 c)else 0)
 | [],_=>fZ
 | c::cs,h=>by
  have f:=h c fZ;have a:=Vq (side:=side) d (cs:=cs) λx b=>h x (by simp[b]);simp only[cQ,a]
  have e:(if decide (ma side (-1) c)=true then 1 else 0)=(if decide (ma side 0 c)=true then 1 else 0)+(if K=2 then(if decide (ma side 1 c)=true then 1 else 0)else 0):=by
   unfold ma;simp only[decide_eq_true_eq]
   by_cases h1:1<=c/\c<=12
   .have:gN c=(c-1) / 2:=by unfold gN;rw[if_pos h1]
    rw[this]
    by_cases hs:kh c=side
    .grind
    .simp[hs]
   .have:gN c = -1:=by unfold gN;rw[if_neg h1]
    simp[this]
  rw[e];split<;>omega
def f294(g:gq)(hg:gR g)(p:Pos)(a:iC g p)(c:Clause)(b:0<=c.kind/\c.kind<g.kinds.l):Wf T 364 [dG g,dP p,.agg c.cells] [] (Is (.b (decide (sN p p.side c.kind=0)))):=by have hs:=a.side;refine Yg Ly ?_;simp[Ly];refine Yt (f295 g hg p a p.side hs) ?_;simp;simp[zA b.1 b.2,<-SY];exact mI
def f296(g:gq)(hg:gR g)(p:Pos)(a:iC g p)(c:Clause)(f:0<=c.kind/\c.kind<g.kinds.l)(d:0<=c.n/\c.n<g.size):Wf T 366 [dG g,dP p,.agg c.cells] [] (Is (.b (decide (gt p.cs c.n=l5 c.kind (1-p.side))))):=by have hs:=a.side;have b:=a.size;have e:=hg.kinds;refine Yg LC ?_;simp[LC];refine gh ?_;refine Yt (f92 (k:=c.kind) (s:=1-p.side) U U U U) ?_;simp;simp[l5]
def acU(cs:List Int)(side:Int):qd cs side 1 = [((cs.countP λc=>decide (ma side 0 c):Nat):Int)]:=by simp[qd,upto,aE,aE.loop]
def acV(cs:List Int)(side:Int):qd cs side 2 = [((cs.countP λc=>decide (ma side 0 c):Nat):Int),(cs.countP λc=>decide (ma side 1 c):Nat)]:=by simp[qd,upto,aE,aE.loop]
def f297(g:gq)(hg:gR g)(p:Pos)(b:iC g p)(c:Clause):Wf T 367 [dG g,dP p,.agg c.cells] [] (Is (.b (decide (sN p p.side (-1)<=c.n)))):=by
 have hs:=b.side;have j:=b.size;have m:=hg.jU.size;have k:=hg.kinds;have f:=Vq (side:=p.side) (K:=g.kinds.l) U (cs:=p.cs) b.cs;have i:=dC (p:=λc=>decide (ma p.side 0 c)) (l:=p.cs);have h:=dC (p:=λc=>decide (ma p.side 1 c)) (l:=p.cs);rw[SY,f];refine Yg LD ?_;simp[LD];refine Yc (f295 g hg p b p.side hs) ?_;simp;rcases(U:g.kinds.l=1\/g.kinds.l=2)with e|e
 .rw[e,acU];simp;generalize (p.cs.countP λc=>decide (ma p.side 0 c))=n0 at *;have a:gt [(n0:Int)] 0=n0:=rfl;refine gx.un ?_;refine kU.u ?_;simp[a];refine jT a ?_;refine kU.u ?_;simp[a]
 .rw[e,acV];simp;generalize (p.cs.countP λc=>decide (ma p.side 0 c))=n0 at *;generalize (p.cs.countP λc=>decide (ma p.side 1 c))=n1 at *;have a:gt [(n0:Int),n1] 0=n0:=rfl;have d:gt [(n0:Int),n1] 1=n1:=rfl;refine gx.un ?_;refine kU.u ?_;simp[a];refine jT a ?_;refine kU.u ?_;simp[d];refine jT d ?_;refine kU.u ?_;simp[d]
def f46(g:gq)(hg:gR g)(p:Pos)(j:iC g p):Wf T 113 [dG g,dP p] [] (Ey (λn:Int=>.tup [.i n,.b (decide (ended g p))]) λ_=>True):=by
 have r:=hg.clauses;refine Yg Dd ?_;simp[Dd];refine gx.e (0:Int) (λy=>[(2,.ptr 0 0 0),(3,.ptr 1 0 0),(9,dN 4 Clause.cells g.clauses),(10,.i g.clauses.l),(11,.i y)]) (λy=>[.row 43 0 g.cells,.row 46 0 p.cells]) (λy=>0<=y/\y<=g.clauses.l/\∀c∈g.clauses.take y.toNat,¬ln p c) (λy=>(g.clauses.l-y).toNat) ?_ ?_
 .simp
 rintro i ⟨i0,o,l⟩
 by_cases hi:i<g.clauses.l
 .have m:=gF i0 hi;have b:=hg.clause _ m;have q:=b.ok;have k:ln p (gt g.clauses i)->decide (ended g p)=true:=λh=>decide_eq_true ⟨_,m,h⟩
  have f:¬ln p (gt g.clauses i)->∀c∈g.clauses.take (i+1).toNat,¬ln p c:=λh c b=>by
   rw[jt i0 hi]at b;rcases aj.1 b with b|b
   .exact l c b
   .grind
  simp[hi];refine gh ?_;rcases(U:(gt g.clauses i).cond=1\/(gt g.clauses i).cond=2\/(gt g.clauses i).cond=3)with e|e|e
  .simp[e];refine Yt (f294 g hg p j ⟨1,(gt g.clauses i).kind,(gt g.clauses i).n,(gt g.clauses i).out⟩ gJ) ?_;simp;have d:ln p (gt g.clauses i)=(sN p p.side (gt g.clauses i).kind=0):=by simp[ln,e]
   by_cases a:sN p p.side (gt g.clauses i).kind=0
   .simp[a];exact Ey.i (gt g.clauses i).out (by simp[k (d▸a)]) rfl trivial
   .simp[a];refine gh ?_;refine LJ.e (i+1) ?_;exact gX (f (d▸a))
  .simp[e];refine Yt (f296 g hg p j ⟨2,(gt g.clauses i).kind,(gt g.clauses i).n,(gt g.clauses i).out⟩ gJ gJ) ?_;simp;have d:ln p (gt g.clauses i)=(gt p.cs (gt g.clauses i).n=l5 (gt g.clauses i).kind (1-p.side)):=by simp[ln,e]
   by_cases a:gt p.cs (gt g.clauses i).n=l5 (gt g.clauses i).kind (1-p.side)
   .simp[a];exact Ey.i (gt g.clauses i).out (by simp[k (d▸a)]) rfl trivial
   .simp[a];refine gh ?_;refine LJ.e (i+1) ?_;exact gX (f (d▸a))
  .simp[e];refine Yt (f297 g hg p j ⟨3,(gt g.clauses i).kind,(gt g.clauses i).n,(gt g.clauses i).out⟩) ?_;simp;have d:ln p (gt g.clauses i)=(sN p p.side (-1)<=(gt g.clauses i).n):=by simp[ln,e]
   by_cases a:sN p p.side (-1)<=(gt g.clauses i).n
   .simp[a];exact Ey.i (gt g.clauses i).out (by simp[k (d▸a)]) rfl trivial
   .simp[a];refine gh ?_;refine LJ.e (i+1) ?_;exact gX (f (d▸a))
 .simp[hi];have:¬ended g p:=λ⟨c,b,h⟩=>l c (by rw[lC U];exact b) h;exact Ey.i 0 (by simp[this]) rfl trivial
