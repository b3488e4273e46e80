/- Part 20 of DisputeSettles. -/
import Derived.Test.YtmehofoficaelaaGreatDoorS18
set_option linter.all false
namespace Go.AL
open Go
@[simp] theorem azA(n v:Nat):jv n (.ja v)=decide (v<n):=rfl
@[simp] theorem azD(n v:Nat):nk n (.ja v)=decide (v<n):=rfl
@[simp] theorem azv(n:Nat)(cs:List D):jv n (.gC cs)=cs.all (nk n):=rfl
@[simp] theorem ax1(n:Nat):nj n .jE=true:=rfl
@[simp] theorem ax3(n rf:Nat)(e:Env)(st:qv):nj n (.im rf e st)=e.all λx=>jv n x.2:=rfl
theorem ZM{n m:Nat}(h:n<=m):iI n (List.range' n (m-n))=iI m []:=by unfold iI;rw[List.map_nil,az,<-List.map_append,cP,cP];congr 1;have:=List.range'_append (s:=0) (m:=n) (n:=m-n) (step:=1);simp only[Nat.one_mul,aR]at this;rw[this];congr 1;omega
def ad3{n:Nat}{live:List Nat}{env:Env}{H:U}{r:Bool}(f:n<=H.length)(b:((forget live env).all λp=>jv n p.2)=true)
  (d:dedup (((H.take n).map (oJ n)).flatten.filter (· < H.length))=List.range' n (H.length-n)) (e:ju H.length H):cut n live { env:=env,H:=H,marks:=[],ic:=r } = { env:=forget live env,H:=H,marks:=[],ic:=r }:=by
 by_cases h:H.length<=n\/AH live=true
 .unfold cut;dsimp only;rw[if_pos h]
 .unfold cut;dsimp only;rw[if_neg h];have g:((forget live env).map λp=>jk n p.2).flatten = []:=flatten_nil λp a=>P2 (List.all_eq_true.1 b p a);rw[g,List.filter_nil,az,aS,d,ZM f];have c:=Jk (n:=H.length) (H:=H) (G:=[]) rfl e;rw[az]at c;rw[c];congr 1
  conv=>rhs;rw[<-aY (forget live env)]
  exact aq λp a=>by rw[Fh (n:=n) (λu i=>Fb (by omega)) (List.all_eq_true.1 b p a)];rfl
def ahW{n:Nat}{H:U}{d:D}(f:n<=H.length)(c:jv n d=true)
  (b:dedup (((H.take n).map (oJ n)).flatten.filter (· < H.length))=List.range' n (H.length-n)) (e:ju H.length H):leave 0 n H d=(d,H):=by
 by_cases h:H.length<=n
 .exact Z3 h 0
 .unfold leave;rw[if_neg (by omega)];simp only[aS];rw[b,ZM f];have a:=Jk (n:=H.length) (H:=H) (G:=[]) rfl e;rw[az]at a;rw[a,Fh (n:=n) (λu g=>Fb (by omega)) c]
def PH:Option Nat->D
 | some v'=>.ja v'
 | none=>.any
@[simp] theorem azf(v:Nat):PH (some v) = .ja v:=rfl
@[simp] theorem aze:PH none = .any:=rfl
@[simp] theorem azr(ρ:Nat->Option Nat)(H:U)(k v:Nat):gq ρ H (k+1) (.ja v)=PH (ρ v):=by rw[gq,if_neg (by simp[closed])];unfold PH;rfl
@[simp] theorem at0(l:List gQ):closed (dN 6 gQ.cells l)=true:=Bg (λa=>by simp[gG]) l
end Go.AL
namespace Go.Proofs.YtmehofoficaelaaGreatDoor
open Go Go.AL Classical
set_option maxRecDepth 10000
set_option maxHeartbeats 4000000
def QZ{a b:List Int}(hl:a.length=b.length)(h:∀k:Int,0<=k->k<a.length->gt a k=gt b k):a=b:=
 bt hl λi h1 c=>by have:=h i (by omega) (by omega);simpa[gt,h1,c]using this
noncomputable def qb(cs:List Int)(side:Int)(K:Nat):List Int:=(upto K).map λk=>(cs.countP λc=>decide (l6 side k c):Nat)
@[simp] theorem auj(cs:List Int)(side:Int)(K:Nat):(qb cs side K).length=K:=by simp[qb,upto]
theorem zJ{cs:List Int}{side:Int}{K:Nat}{k:Int}(h0:0<=k)(h:k<K):gt (qb cs side K) k=(cs.countP λc=>decide (l6 side k c):Nat):=by
 have h1:k.toNat<K:=by omega
 simp[qb,upto,gt,h1,cj h0]
def adR{cs:List Int}{side:Int}{K:Nat}{c:Int}(d:0<c/\c<=12)(a:(c-1) / 2<K)(hs:(c-1) % 2=side):pt (qb cs side K) ((c-1) / 2) (gt (qb cs side K) ((c-1) / 2)+1)=qb (cs ++ [c]) side K:=by
 have h0:0<=(c-1) / 2:=by omega
 have hl:=iC (l:=qb cs side K) (n:=(c-1) / 2) (v:=gt (qb cs side K) ((c-1) / 2)+1) h0 (by simpa using a);refine QZ (by rw[hl];simp) λk k0 k1=>?_;rw[hl]at k1;simp at k1;have b:gI c=(c-1) / 2/\jZ c=side:=by unfold gI jZ;rw[if_pos (by omega),if_pos (by omega)];exact⟨rfl,hs⟩
 rw[lK h0 (by simpa using a) k0,zJ (cs:=cs ++ [c]) k0 k1,cZ];simp only[bJ,List.countP_nil,l6,b.1,b.2];split
 .rename_i e;subst e;rw[zJ h0 a];simp[h0,l6]
 .rename_i e;rw[zJ k0 k1];simp[l6];rw[if_neg (by omega)];simp
def Wj{cs:List Int}{side:Int}{K:Nat}{c:Int}(h:c<=0\/(c-1) % 2≠side):qb cs side K=qb (cs ++ [c]) side K:=by
 refine QZ (by simp) λk k0 k1=>?_;simp at k1;rw[zJ k0 k1,zJ k0 k1,cZ];simp only[bJ,List.countP_nil,l6]
 have:¬(0<=gI c/\jZ c=side/\(k<0\/gI c=k)):=by
  unfold gI jZ;split
  .omega
  .omega
 simp[this]
def adS(side:Int)(K:Nat):qb [] side K=List.replicate K 0:=by
 refine QZ (by simp) λk k0 k1=>?_;simp at k1;rw[zJ k0 k1];have:k.toNat<K:=by omega
 simp[gt,this]
def f295(g:gj)(hg:gU g)(p:Pos)(m:iz g p)(side:Int)(hs:0<=side/\side<=1):Wf T 365 [dG g,dP p,.i side] [] (Is (dI (qb p.cs side g.kinds.length))):=by
 have q:=m.size;have t:=hg.jJ.size;have r:=hg.kinds;refine Yg Ma ?_;simp[Ma];refine gf ?_;refine gp.e ((0,List.replicate g.kinds.length 0):Int×List Int) (λy=>[(2,.i side),(7,.fZ 2 0 1 0 g.kinds.length),(15,dI p.cs),(16,.i p.cs.length),(17,.i y.1)]) (λy=>[.row 43 0 g.cells,.row 46 0 p.cells,.row 3 0 (cl f1 y.2)]) (λy=>0<=y.1/\y.1<=p.cs.length/\y.2=qb (p.cs.take y.1.toNat) side g.kinds.length) (λy=>(p.cs.length-y.1).toNat) ?_ ?_
 .simp[adS]
 rintro⟨i,cn⟩ ⟨i0,n,d⟩;dsimp only at i0 n d ⊢;have u:cn.length=g.kinds.length:=by rw[d];simp
 by_cases hi:i<p.cs.length
 .have s:=m.cs _ (gA i0 hi);have j:=jn i0 hi;have f:=jB (a:=gt p.cs i-1) (b:=2)
  by_cases h:0<gt p.cs i
  .have f:=f (by omega);have k:=vj (a:=gt p.cs i-1) (b:=2) (by omega) (by omega) (by omega)
   by_cases e:(gt p.cs i-1) % 2=side
   .have o:gt cn ((gt p.cs i-1) / 2)<=9/\0<=gt cn ((gt p.cs i-1) / 2):=by rw[d,zJ (by omega) (by omega)];have:=de (p:=λc=>decide (l6 side ((gt p.cs i-1) / 2) c)) (l:=p.cs.take i.toNat);rw[aJ]at this;omega
    simp[hi,h,f,k,e];refine qy f k e ?_;refine LJ.e (i+1,pt cn ((gt p.cs i-1) / 2) (gt cn ((gt p.cs i-1) / 2)+1)) ?_;refine gJ ?_;dsimp only;rw[j,d];exact adR (by omega) (by omega) e
   .simp[hi,h,f,e];refine kJ f e ?_;refine LJ.e (i+1,cn) ?_;refine gJ ?_;dsimp only;rw[j,d];exact Wj (.inr e)
  .simp[hi,h];refine gf ?_;refine LJ.e (i+1,cn) ?_;refine gJ ?_;dsimp only;rw[j,d];exact Wj (by omega)
 .simp[hi];rw[d,lr (by omega),tM (by simp)];rfl
theorem Wl{side:Int}{K:Int}(d:1<=K/\K<=2):∀ {cs:List Int},(∀c∈cs,0<=c/\c<=2*K)->(cs.countP λc=>decide (l6 side (-1) c))=(cs.countP λc=>decide (l6 side 0 c))+(if K=2 then cs.countP λc=>decide (l6 side 1 c)else 0)
 | [],_=>by simp
 | c::cs,h=>by
  have f:=h c (by simp);have a:=Wl (side:=side) d (cs:=cs) λx b=>h x (by simp[b]);simp only[bJ,a]
  have e:(if decide (l6 side (-1) c)=true then 1 else 0)=(if decide (l6 side 0 c)=true then 1 else 0)+(if K=2 then(if decide (l6 side 1 c)=true then 1 else 0)else 0):=by
   unfold l6;simp only[decide_eq_true_eq]
   by_cases h1:1<=c/\c<=12
   .have:gI c=(c-1) / 2:=by unfold gI;rw[if_pos h1]
    rw[this]
    by_cases hs:jZ c=side
    .grind
    .simp[hs]
   .have:gI c = -1:=by unfold gI;rw[if_neg h1]
    simp[this]
  rw[e];split<;>omega
def f294(g:gj)(hg:gU g)(p:Pos)(a:iz g p)(c:Clause)(b:0<=c.kind/\c.kind<g.kinds.length):Wf T 364 [dG g,dP p,.agg c.cells] [] (Is (.b (decide (sL p p.side c.kind=0)))):=by have hs:=a.side;refine Yg L9 ?_;simp[L9];refine Yt (f295 g hg p a p.side hs) ?_;simp;simp[zJ b.1 b.2,<-TI];exact mQ
def f296(g:gj)(hg:gU g)(p:Pos)(a:iz g p)(c:Clause)(f:0<=c.kind/\c.kind<g.kinds.length)(d:0<=c.n/\c.n<g.size):Wf T 366 [dG g,dP p,.agg c.cells] [] (Is (.b (decide (gt p.cs c.n=lU c.kind (1-p.side))))):=by have hs:=a.side;have b:=a.size;have e:=hg.kinds;refine Yg Mb ?_;simp[Mb];refine gf ?_;refine Yt (f92 (k:=c.kind) (s:=1-p.side) (by omega) (by omega) (by omega) (by omega)) ?_;simp;simp[lU]
def adP(cs:List Int)(side:Int):qb cs side 1 = [((cs.countP λc=>decide (l6 side 0 c):Nat):Int)]:=by simp[qb,upto,List.range,List.range.loop]
def adQ(cs:List Int)(side:Int):qb cs side 2 = [((cs.countP λc=>decide (l6 side 0 c):Nat):Int),(cs.countP λc=>decide (l6 side 1 c):Nat)]:=by simp[qb,upto,List.range,List.range.loop]
def f297(g:gj)(hg:gU g)(p:Pos)(b:iz g p)(c:Clause):Wf T 367 [dG g,dP p,.agg c.cells] [] (Is (.b (decide (sL p p.side (-1)<=c.n)))):=by
 have hs:=b.side;have j:=b.size;have m:=hg.jJ.size;have k:=hg.kinds;have f:=Wl (side:=p.side) (K:=g.kinds.length) (by omega) (cs:=p.cs) b.cs;have i:=de (p:=λc=>decide (l6 p.side 0 c)) (l:=p.cs);have h:=de (p:=λc=>decide (l6 p.side 1 c)) (l:=p.cs);rw[TI,f];refine Yg Mc ?_;simp[Mc];refine Yc (f295 g hg p b p.side hs) ?_;simp;rcases(show g.kinds.length=1\/g.kinds.length=2 by omega)with e|e
 .rw[e,adP];simp;generalize (p.cs.countP λc=>decide (l6 p.side 0 c))=n0 at *;have a:gt [(n0:Int)] 0=n0:=rfl;refine gp.un ?_;refine kS.u ?_;simp[a];refine jD a ?_;refine kS.u ?_;simp[a]
 .rw[e,adQ];simp;generalize (p.cs.countP λc=>decide (l6 p.side 0 c))=n0 at *;generalize (p.cs.countP λc=>decide (l6 p.side 1 c))=n1 at *;have a:gt [(n0:Int),n1] 0=n0:=rfl;have d:gt [(n0:Int),n1] 1=n1:=rfl;refine gp.un ?_;refine kS.u ?_;simp[a];refine jD a ?_;refine kS.u ?_;simp[d];refine jD d ?_;refine kS.u ?_;simp[d]
def f46(g:gj)(hg:gU g)(p:Pos)(j:iz g p):Wf T 113 [dG g,dP p] [] (Ey (λn:Int=>.tup [.i n,.b (decide (ended g p))]) λ_=>True):=by
 have r:=hg.clauses;refine Yg Dr ?_;simp[Dr];refine gp.e (0:Int) (λy=>[(2,.ptr 0 0 0),(3,.ptr 1 0 0),(9,dN 4 Clause.cells g.clauses),(10,.i g.clauses.length),(11,.i y)]) (λy=>[.row 43 0 g.cells,.row 46 0 p.cells]) (λy=>0<=y/\y<=g.clauses.length/\∀c∈g.clauses.take y.toNat,¬kZ p c) (λy=>(g.clauses.length-y).toNat) ?_ ?_
 .simp
 rintro i ⟨i0,o,l⟩
 by_cases hi:i<g.clauses.length
 .have m:=gA i0 hi;have b:=hg.clause _ m;have q:=b.ok;have k:kZ p (gt g.clauses i)->decide (ended g p)=true:=λh=>decide_eq_true ⟨_,m,h⟩
  have f:¬kZ p (gt g.clauses i)->∀c∈g.clauses.take (i+1).toNat,¬kZ p c:=λh c b=>by
   rw[jn i0 hi]at b;rcases List.mem_append.1 b with b|b
   .exact l c b
   .grind
  simp[hi];refine gf ?_;rcases(show(gt g.clauses i).cond=1\/(gt g.clauses i).cond=2\/(gt g.clauses i).cond=3 by omega)with e|e|e
  .simp[e];refine Yt (f294 g hg p j ⟨1,(gt g.clauses i).kind,(gt g.clauses i).n,(gt g.clauses i).out⟩ (by dsimp only;omega)) ?_;simp;have d:kZ p (gt g.clauses i)=(sL p p.side (gt g.clauses i).kind=0):=by simp[kZ,e]
   by_cases a:sL p p.side (gt g.clauses i).kind=0
   .simp[a];exact Ey.i (gt g.clauses i).out (by simp[k (d▸a)]) rfl trivial
   .simp[a];refine gf ?_;refine LJ.e (i+1) ?_;exact gJ (f (d▸a))
  .simp[e];refine Yt (f296 g hg p j ⟨2,(gt g.clauses i).kind,(gt g.clauses i).n,(gt g.clauses i).out⟩ (by dsimp only;omega) (by dsimp only;omega)) ?_;simp;have d:kZ p (gt g.clauses i)=(gt p.cs (gt g.clauses i).n=lU (gt g.clauses i).kind (1-p.side)):=by simp[kZ,e]
   by_cases a:gt p.cs (gt g.clauses i).n=lU (gt g.clauses i).kind (1-p.side)
   .simp[a];exact Ey.i (gt g.clauses i).out (by simp[k (d▸a)]) rfl trivial
   .simp[a];refine gf ?_;refine LJ.e (i+1) ?_;exact gJ (f (d▸a))
  .simp[e];refine Yt (f297 g hg p j ⟨3,(gt g.clauses i).kind,(gt g.clauses i).n,(gt g.clauses i).out⟩) ?_;simp;have d:kZ p (gt g.clauses i)=(sL p p.side (-1)<=(gt g.clauses i).n):=by simp[kZ,e]
   by_cases a:sL p p.side (-1)<=(gt g.clauses i).n
   .simp[a];exact Ey.i (gt g.clauses i).out (by simp[k (d▸a)]) rfl trivial
   .simp[a];refine gf ?_;refine LJ.e (i+1) ?_;exact gJ (f (d▸a))
 .simp[hi];have:¬ended g p:=λ⟨c,b,h⟩=>l c (by rw[lr (by omega)];exact b) h;exact Ey.i 0 (by simp[this]) rfl trivial
