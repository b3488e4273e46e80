/- Part 20 of DisputeMatchesReference. -/
import Derived.Test.YtmehofoficaelaaGreatDoorM18
set_option linter.all false
open List renaming range→aE,all_eq_true→bb,range'→bs,countP_nil→b4,replicate→cj,length→List.l
namespace Go.AL
open Go
@[simp] theorem aAg(n v:Nat):jW n (.jt v)=decide (v<n):=rfl
@[simp] theorem aAj(n v:Nat):oC n (.jt v)=decide (v<n):=rfl
@[simp] theorem aAb(n:Nat)(cs:List D):jW n (.gH cs)=cs.all (oC n):=rfl
@[simp] theorem ayG(n:Nat):oO n .ka=true:=rfl
@[simp] theorem ayI(n rf:Nat)(e:Env)(st:sB):oO n (.iE rf e st)=e.all λx=>jW n x.2:=rfl
theorem aaw{n m:Nat}(h:n<=m):jC n (bs n (m-n))=jC m []:=by unfold jC;rw[List.map_nil,aD,<-List.map_append,cV,cV];congr 1;have:=List.range'_append (s:=0) (m:=n) (n:=m-n) (step:=1);simp only[Nat.one_mul,aV]at this;rw[this];congr 1;omega
def aeF{n:Nat}{live:List Nat}{env:Env}{H:gg}{r:Bool}(f:n<=H.l)(b:((forget live env).all λp=>jW n p.2)=true)
  (d:dedup (((H.take n).map (pZ n)).flatten.filter (· < H.l))=bs n (H.l-n)) (e:jM H.l H):cut n live { env:=env,H:=H,marks:=[],iM:=r } = { env:=forget live env,H:=H,marks:=[],iM:=r }:=by
 by_cases h:H.l<=n\/Dx live=true
 .unfold cut;dsimp only;rw[if_pos h]
 .unfold cut;dsimp only;rw[if_neg h];have g:((forget live env).map λp=>jP n p.2).flatten = []:=flatten_nil λp a=>QJ (bb.1 b p a);rw[g,List.filter_nil,aD,bI,d,aaw f];have c:=JT (n:=H.l) (H:=H) (G:=[]) rfl e;rw[aD]at c;rw[c];congr 1
  conv=>rhs;rw[<-bf (forget live env)]
  exact aw λp a=>by rw[Ge (n:=n) (λu i=>Ga U) (bb.1 b p a)];rfl
def aiA{n:Nat}{H:gg}{d:D}(f:n<=H.l)(c:jW n d=true)
  (b:dedup (((H.take n).map (pZ n)).flatten.filter (· < H.l))=bs n (H.l-n)) (e:jM H.l H):leave 0 n H d=(d,H):=by
 by_cases h:H.l<=n
 .exact aaN h 0
 .unfold leave;rw[if_neg U];simp only[bI];rw[b,aaw f];have a:=JT (n:=H.l) (H:=H) (G:=[]) rfl e;rw[aD]at a;rw[a,Ge (n:=n) (λu g=>Ga U) c]
def Qq:Option Nat->D
 | some v'=>.jt v'
 | none=>.any
@[simp] theorem azU(v:Nat):Qq (some v) = .jt v:=rfl
@[simp] theorem azT:Qq none = .any:=rfl
@[simp] theorem az7(ρ:Nat->Option Nat)(H:gg)(k v:Nat):gA ρ H (k+1) (.jt v)=Qq (ρ v):=by rw[gA,if_neg (by simp[closed])];unfold Qq;rfl
@[simp] theorem auJ(l:List ij):closed (dN 6 ij.cells l)=true:=Cg (λa=>by simp[gN]) l
end Go.AL
namespace Go.Proofs.YtmehofoficaelaaGreatDoor
open Go Go.AL Classical
set_option maxRecDepth 10000
set_option maxHeartbeats 4000000
def RC{a b:List Int}(hl:a.l=b.l)(h:∀k:Int,0<=k->k<a.l->gt a k=gt b k):a=b:=
 bj hl λi h1 c=>by have:=h i U U;simpa[gt,h1,c]using this
noncomputable def rM(cs:List Int)(side:Int)(K:Nat):List Int:=(upto K).map λk=>(cs.countP λc=>decide (mI side k c):Nat)
@[simp] theorem au0(cs:List Int)(side:Int)(K:Nat):(rM cs side K).l=K:=by simp[rM,upto]
theorem AG{cs:List Int}{side:Int}{K:Nat}{k:Int}(h0:0<=k)(h:k<K):gt (rM cs side K) k=(cs.countP λc=>decide (mI side k c):Nat):=by have h1:k.toNat<K:=U;simp[rM,upto,gt,h1,cA h0]
def aeu{cs:List Int}{side:Int}{K:Nat}{c:Int}(d:0<c/\c<=12)(a:(c-1) / 2<K)(hs:(c-1) % 2=side):pt (rM cs side K) ((c-1) / 2) (gt (rM cs side K) ((c-1) / 2)+1)=rM (cs ++ [c]) side K:=by
 have h0:0<=(c-1) / 2:=U;have hl:=jg (l:=rM cs side K) (n:=(c-1) / 2) (v:=gt (rM cs side K) ((c-1) / 2)+1) h0 (by simpa using a);refine RC (by rw[hl];simp) λk k0 k1=>?_;rw[hl]at k1;simp at k1;have b:gV c=(c-1) / 2/\kE c=side:=by unfold gV kE;rw[if_pos U,if_pos U];exact⟨rfl,hs⟩
 rw[qj h0 (by simpa using a) k0,AG (cs:=cs ++ [c]) k0 k1,de];simp only[c8,b4,mI,b.1,b.2];split
 .rename_i e;subst e;rw[AG h0 a];simp[h0,mI]
 .rename_i e;rw[AG k0 k1];simp[mI];rw[if_neg U];simp
def WW{cs:List Int}{side:Int}{K:Nat}{c:Int}(h:c<=0\/(c-1) % 2≠side):rM cs side K=rM (cs ++ [c]) side K:=by
 refine RC gf λk k0 k1=>?_;simp at k1;rw[AG k0 k1,AG k0 k1,de];simp only[c8,b4,mI]
 have:¬(0<=gV c/\kE c=side/\(k<0\/gV c=k)):=by
  unfold gV kE;split
  .omega
  .omega
 simp[this]
def aev(side:Int)(K:Nat):rM [] side K=cj K 0:=by refine RC gf λk k0 k1=>?_;simp at k1;rw[AG k0 k1];have:k.toNat<K:=U;simp[gt,this]
def f295(g:gv)(hg:gZ g)(p:Pos)(m:iI g p)(side:Int)(hs:0<=side/\side<=1):Wf T 365 [dG g,dP p,.i side] [] (Is (dI (rM p.cs side g.kinds.l))):=by
 have q:=m.size;have t:=hg.ki.size;have r:=hg.kinds;refine Yg MR ?_;simp[MR];refine gi ?_;refine gx.e ((0,cj g.kinds.l 0):Int×List Int) (λy=>[(2,.i side),(7,.gh 2 0 1 0 g.kinds.l),(15,dI p.cs),(16,.i p.cs.l),(17,.i y.1)]) (λy=>[.row 43 0 g.cells,.row 46 0 p.cells,.row 3 0 (cl f1 y.2)]) (λy=>0<=y.1/\y.1<=p.cs.l/\y.2=rM (p.cs.take y.1.toNat) side g.kinds.l) (λy=>(p.cs.l-y.1).toNat) ?_ ?_
 .simp[aev]
 rintro⟨i,cn⟩ ⟨i0,n,d⟩;dsimp only at i0 n d ⊢;have u:cn.l=g.kinds.l:=by rw[d];simp
 by_cases hi:i<p.cs.l
 .have s:=m.cs _ (gF i0 hi);have j:=jI i0 hi;have f:=jO (a:=gt p.cs i-1) (b:=2)
  by_cases h:0<gt p.cs i
  .have f:=f U;have k:=wJ (a:=gt p.cs i-1) (b:=2) U U U
   by_cases e:(gt p.cs i-1) % 2=side
   .have o:gt cn ((gt p.cs i-1) / 2)<=9/\0<=gt cn ((gt p.cs i-1) / 2):=by rw[d,AG U U];have:=dJ (p:=λc=>decide (mI side ((gt p.cs i-1) / 2) c)) (l:=p.cs.take i.toNat);rw[aG]at this;omega
    simp[hi,h,f,k,e];refine kG f k e ?_;refine LJ.e (i+1,pt cn ((gt p.cs i-1) / 2) (gt cn ((gt p.cs i-1) / 2)+1)) ?_;refine ic ?_;dsimp only;rw[j,d];exact aeu U U e
   .simp[hi,h,f,e];refine jT f e ?_;refine LJ.e (i+1,cn) ?_;refine ic ?_;dsimp only;rw[j,d];exact WW (.inr e)
  .simp[hi,h];refine gi ?_;refine LJ.e (i+1,cn) ?_;refine ic ?_;dsimp only;rw[j,d];exact WW U
 .simp[hi];rw[d,lW U,xd gf];rfl
theorem WX{side:Int}{K:Int}(d:1<=K/\K<=2):∀ {cs:List Int},(∀c∈cs,0<=c/\c<=2*K)->(cs.countP λc=>decide (mI side (-1) c))=(cs.countP λc=>decide (mI side 0 c))+(if K=2 then cs.countP λc=>decide (mI side 1 c)else 0)
 | [],_=>gf
 | c::cs,h=>by
  have f:=h c gf;have a:=WX (side:=side) d (cs:=cs) λx b=>h x (by simp[b]);simp only[c8,a]
  have e:(if decide (mI side (-1) c)=true then 1 else 0)=(if decide (mI side 0 c)=true then 1 else 0)+(if K=2 then(if decide (mI side 1 c)=true then 1 else 0)else 0):=by
   unfold mI;simp only[decide_eq_true_eq]
   by_cases h1:1<=c/\c<=12
   .have:gV c=(c-1) / 2:=by unfold gV;rw[if_pos h1]
    rw[this]
    by_cases hs:kE c=side
    .grind
    .simp[hs]
   .have:gV c = -1:=by unfold gV;rw[if_neg h1]
    simp[this]
  rw[e];split<;>omega
def f294(g:gv)(hg:gZ g)(p:Pos)(a:iI g p)(c:Clause)(b:0<=c.kind/\c.kind<g.kinds.l):Wf T 364 [dG g,dP p,.agg c.cells] [] (Is (.b (decide (tX p p.side c.kind=0)))):=by have hs:=a.side;refine Yg MQ ?_;simp[MQ];refine Yt (f295 g hg p a p.side hs) ?_;simp;simp[AG b.1 b.2,<-Uk];exact nb
def f296(g:gv)(hg:gZ g)(p:Pos)(a:iI g p)(c:Clause)(f:0<=c.kind/\c.kind<g.kinds.l)(d:0<=c.n/\c.n<g.size):Wf T 366 [dG g,dP p,.agg c.cells] [] (Is (.b (decide (gt p.cs c.n=mC c.kind (1-p.side))))):=by have hs:=a.side;have b:=a.size;have e:=hg.kinds;refine Yg MS ?_;simp[MS];refine gi ?_;refine Yt (f92 (k:=c.kind) (s:=1-p.side) U U U U) ?_;simp;simp[mC]
def aes(cs:List Int)(side:Int):rM cs side 1 = [((cs.countP λc=>decide (mI side 0 c):Nat):Int)]:=by simp[rM,upto,aE,aE.loop]
def aet(cs:List Int)(side:Int):rM cs side 2 = [((cs.countP λc=>decide (mI side 0 c):Nat):Int),(cs.countP λc=>decide (mI side 1 c):Nat)]:=by simp[rM,upto,aE,aE.loop]
def f297(g:gv)(hg:gZ g)(p:Pos)(b:iI g p)(c:Clause):Wf T 367 [dG g,dP p,.agg c.cells] [] (Is (.b (decide (tX p p.side (-1)<=c.n)))):=by
 have hs:=b.side;have j:=b.size;have m:=hg.ki.size;have k:=hg.kinds;have f:=WX (side:=p.side) (K:=g.kinds.l) U (cs:=p.cs) b.cs;have i:=dJ (p:=λc=>decide (mI p.side 0 c)) (l:=p.cs);have h:=dJ (p:=λc=>decide (mI p.side 1 c)) (l:=p.cs);rw[Uk,f];refine Yg MT ?_;simp[MT];refine Yc (f295 g hg p b p.side hs) ?_;simp;rcases(U:g.kinds.l=1\/g.kinds.l=2)with e|e
 .rw[e,aes];simp;generalize (p.cs.countP λc=>decide (mI p.side 0 c))=n0 at *;have a:gt [(n0:Int)] 0=n0:=rfl;refine gx.un ?_;refine lG.u ?_;simp[a];refine iU a ?_;refine lG.u ?_;simp[a]
 .rw[e,aet];simp;generalize (p.cs.countP λc=>decide (mI p.side 0 c))=n0 at *;generalize (p.cs.countP λc=>decide (mI p.side 1 c))=n1 at *;have a:gt [(n0:Int),n1] 0=n0:=rfl;have d:gt [(n0:Int),n1] 1=n1:=rfl;refine gx.un ?_;refine lG.u ?_;simp[a];refine iU a ?_;refine lG.u ?_;simp[d];refine iU d ?_;refine lG.u ?_;simp[d]
def f46(g:gv)(hg:gZ g)(p:Pos)(j:iI g p):Wf T 113 [dG g,dP p] [] (Ey (λn:Int=>.tup [.i n,.b (decide (ended g p))]) λ_=>True):=by
 have r:=hg.clauses;refine Yg Ej ?_;simp[Ej];refine gx.e (0:Int) (λy=>[(2,.ptr 0 0 0),(3,.ptr 1 0 0),(9,dN 4 Clause.cells g.clauses),(10,.i g.clauses.l),(11,.i y)]) (λy=>[.row 43 0 g.cells,.row 46 0 p.cells]) (λy=>0<=y/\y<=g.clauses.l/\∀c∈g.clauses.take y.toNat,¬lR p c) (λy=>(g.clauses.l-y).toNat) ?_ ?_
 .simp
 rintro i ⟨i0,o,l⟩
 by_cases hi:i<g.clauses.l
 .have m:=gF i0 hi;have b:=hg.clause _ m;have q:=b.ok;have k:lR p (gt g.clauses i)->decide (ended g p)=true:=λh=>decide_eq_true ⟨_,m,h⟩
  have f:¬lR p (gt g.clauses i)->∀c∈g.clauses.take (i+1).toNat,¬lR p c:=λh c b=>by
   rw[jI i0 hi]at b;rcases aj.1 b with b|b
   .exact l c b
   .grind
  simp[hi];refine gi ?_;rcases(U:(gt g.clauses i).cond=1\/(gt g.clauses i).cond=2\/(gt g.clauses i).cond=3)with e|e|e
  .simp[e];refine Yt (f294 g hg p j ⟨1,(gt g.clauses i).kind,(gt g.clauses i).n,(gt g.clauses i).out⟩ gI) ?_;simp;have d:lR p (gt g.clauses i)=(tX p p.side (gt g.clauses i).kind=0):=by simp[lR,e]
   by_cases a:tX p p.side (gt g.clauses i).kind=0
   .simp[a];exact Ey.i (gt g.clauses i).out (by simp[k (d▸a)]) rfl trivial
   .simp[a];refine gi ?_;refine LJ.e (i+1) ?_;exact ic (f (d▸a))
  .simp[e];refine Yt (f296 g hg p j ⟨2,(gt g.clauses i).kind,(gt g.clauses i).n,(gt g.clauses i).out⟩ gI gI) ?_;simp;have d:lR p (gt g.clauses i)=(gt p.cs (gt g.clauses i).n=mC (gt g.clauses i).kind (1-p.side)):=by simp[lR,e]
   by_cases a:gt p.cs (gt g.clauses i).n=mC (gt g.clauses i).kind (1-p.side)
   .simp[a];exact Ey.i (gt g.clauses i).out (by simp[k (d▸a)]) rfl trivial
   .simp[a];refine gi ?_;refine LJ.e (i+1) ?_;exact ic (f (d▸a))
  .simp[e];refine Yt (f297 g hg p j ⟨3,(gt g.clauses i).kind,(gt g.clauses i).n,(gt g.clauses i).out⟩) ?_;simp;have d:lR p (gt g.clauses i)=(tX p p.side (-1)<=(gt g.clauses i).n):=by simp[lR,e]
   by_cases a:tX p p.side (-1)<=(gt g.clauses i).n
   .simp[a];exact Ey.i (gt g.clauses i).out (by simp[k (d▸a)]) rfl trivial
   .simp[a];refine gi ?_;refine LJ.e (i+1) ?_;exact ic (f (d▸a))
 .simp[hi];have:¬ended g p:=λ⟨c,b,h⟩=>l c (by rw[lW U];exact b) h;exact Ey.i 0 (by simp[this]) rfl trivial
