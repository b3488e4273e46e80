/- Part 20 of DisputeWorkers. -/
import Derived.Test.YtmehofoficaelaaGreatDoorW18
set_option linter.all false
namespace Go.AL
open Go
@[simp] theorem ayN(n v:Nat):ju n (.iT v)=decide (v<n):=rfl
@[simp] theorem ayR(n v:Nat):mZ n (.iT v)=decide (v<n):=rfl
@[simp] theorem ayI(n:Nat)(cs:List D):ju n (.gu cs)=cs.all (mZ n):=rfl
@[simp] theorem axa(n:Nat):ni n .ja=true:=rfl
@[simp] theorem axc(n rf:Nat)(e:Env)(st:qx):ni n (.ib rf e st)=e.all λx=>ju n x.2:=rfl
theorem YP{n m:Nat}(h:n<=m):ji n (List.range' n (m-n))=ji m []:=by unfold ji;rw[List.map_nil,az,<-List.map_append,cK,cK];congr 1;have:=List.range'_append (s:=0) (m:=n) (n:=m-n) (step:=1);simp only[Nat.one_mul,aQ]at this;rw[this];congr 1;omega
theorem ac1{n:Nat}{live:List Nat}{env:Env}{H:U}{r:Bool}(f:n<=H.length)(b:((forget live env).all λp=>ju n p.2)=true)
  (d:dedup (((H.take n).map (oZ n)).flatten.filter (· < H.length))=List.range' n (H.length-n)) (e:jj H.length H):cut n live { env:=env,H:=H,marks:=[],iD:=r } = { env:=forget live env,H:=H,marks:=[],iD:=r }:=by
 by_cases h:H.length<=n\/Cj live=true
 .unfold cut;dsimp only;rw[if_pos h]
 .unfold cut;dsimp only;rw[if_neg h];have g:((forget live env).map λp=>jv n p.2).flatten = []:=flatten_nil λp a=>Po (List.all_eq_true.1 b p a);rw[g,List.filter_nil,az,bq,d,YP f];have c:=IS (n:=H.length) (H:=H) (G:=[]) rfl e;rw[az]at c;rw[c];congr 1
  conv=>rhs;rw[<-bf (forget live env)]
  exact aw λp a=>by rw[EV (n:=n) (λu i=>ER (by omega)) (List.all_eq_true.1 b p a)];rfl
theorem ag5{n:Nat}{H:U}{d:D}(f:n<=H.length)(c:ju n d=true)
  (b:dedup (((H.take n).map (oZ n)).flatten.filter (· < H.length))=List.range' n (H.length-n)) (e:jj H.length H):leave 0 n H d=(d,H):=by
 by_cases h:H.length<=n
 .exact Y9 h 0
 .unfold leave;rw[if_neg (by omega)];simp only[bq];rw[b,YP f];have a:=IS (n:=H.length) (H:=H) (G:=[]) rfl e;rw[az]at a;rw[a,EV (n:=n) (λu g=>ER (by omega)) c]
def O5:Option Nat->D
 | some v'=>.iT v'
 | none=>.any
@[simp] theorem ayr(v:Nat):O5 (some v) = .iT v:=rfl
@[simp] theorem ayq:O5 none = .any:=rfl
@[simp] theorem ayE(ρ:Nat->Option Nat)(H:U)(k v:Nat):gq ρ H (k+1) (.iT v)=O5 (ρ v):=by rw[gq,if_neg (by simp[closed])];unfold O5;rfl
@[simp] theorem as6(l:List gQ):closed (dN 6 gQ.cells l)=true:=A4 (λa=>by simp[gF]) l
end Go.AL
namespace Go.Proofs.YtmehofoficaelaaGreatDoor
open Go Go.AL Classical
set_option maxRecDepth 10000
set_option maxHeartbeats 4000000
theorem Qh{a b:List Int}(hl:a.length=b.length)(h:∀k:Int,0<=k->k<a.length->gt a k=gt b k):a=b:=
 br hl λi h1 c=>by have:=h i (by omega) (by omega);simpa[gt,h1,c]using this
noncomputable def qd(cs:List Int)(side:Int)(K:Nat):List Int:=(upto K).map λk=>(cs.countP λc=>decide (lX side k c):Nat)
@[simp] theorem ato(cs:List Int)(side:Int)(K:Nat):(qd cs side K).length=K:=by simp[qd,upto]
theorem zw{cs:List Int}{side:Int}{K:Nat}{k:Int}(h0:0<=k)(h:k<K):gt (qd cs side K) k=(cs.countP λc=>decide (lX side k c):Nat):=by
 have h1:k.toNat<K:=by omega
 simp[qd,upto,gt,h1,b7 h0]
theorem acP{cs:List Int}{side:Int}{K:Nat}{c:Int}(d:0<c/\c<=12)(a:(c-1) / 2<K)(hs:(c-1) % 2=side):pt (qd cs side K) ((c-1) / 2) (gt (qd cs side K) ((c-1) / 2)+1)=qd (cs ++ [c]) side K:=by
 have h0:0<=(c-1) / 2:=by omega
 have hl:=iP (l:=qd cs side K) (n:=(c-1) / 2) (v:=gt (qd cs side K) ((c-1) / 2)+1) h0 (by simpa using a);refine Qh (by rw[hl];simp) λk k0 k1=>?_;rw[hl]at k1;simp at k1;have b:gJ c=(c-1) / 2/\jY c=side:=by unfold gJ jY;rw[if_pos (by omega),if_pos (by omega)];exact⟨rfl,hs⟩
 rw[pR h0 (by simpa using a) k0,zw (cs:=cs ++ [c]) k0 k1,cV];simp only[cP,List.countP_nil,lX,b.1,b.2];split
 .rename_i e;subst e;rw[zw h0 a];simp[h0,lX]
 .rename_i e;rw[zw k0 k1];simp[lX];rw[if_neg (by omega)];simp
theorem Vp{cs:List Int}{side:Int}{K:Nat}{c:Int}(h:c<=0\/(c-1) % 2≠side):qd cs side K=qd (cs ++ [c]) side K:=by
 refine Qh (by simp) λk k0 k1=>?_;simp at k1;rw[zw k0 k1,zw k0 k1,cV];simp only[cP,List.countP_nil,lX]
 have:¬(0<=gJ c/\jY c=side/\(k<0\/gJ c=k)):=by
  unfold gJ jY;split
  .omega
  .omega
 simp[this]
theorem acQ(side:Int)(K:Nat):qd [] side K=List.replicate K 0:=by
 refine Qh (by simp) λk k0 k1=>?_;simp at k1;rw[zw k0 k1];have:k.toNat<K:=by omega
 simp[gt,this]
theorem f295(g:gi)(hg:gV g)(p:Pos)(m:iw g p)(side:Int)(hs:0<=side/\side<=1):Wf T 365 [dG g,dP p,.i side] [] (Is (dI (qd p.cs side g.kinds.length))):=by
 have q:=m.size;have t:=hg.jJ.size;have r:=hg.kinds;refine Yg LC ?_;simp[LC];refine gd ?_;refine gj.e ((0,List.replicate g.kinds.length 0):Int×List Int) (λy=>[(2,.i side),(7,.fY 2 0 1 0 g.kinds.length),(15,dI p.cs),(16,.i p.cs.length),(17,.i y.1)]) (λy=>[.row 43 0 g.cells,.row 46 0 p.cells,.row 3 0 (cl f1 y.2)]) (λy=>0<=y.1/\y.1<=p.cs.length/\y.2=qd (p.cs.take y.1.toNat) side g.kinds.length) (λy=>(p.cs.length-y.1).toNat) ?_ ?_
 .simp[acQ]
 rintro⟨i,cn⟩ ⟨i0,n,d⟩;dsimp only at i0 n d ⊢;have u:cn.length=g.kinds.length:=by rw[d];simp
 by_cases hi:i<p.cs.length
 .have s:=m.cs _ (gy i0 hi);have j:=jq i0 hi;have f:=jH (a:=gt p.cs i-1) (b:=2)
  by_cases h:0<gt p.cs i
  .have f:=f (by omega);have k:=uu (a:=gt p.cs i-1) (b:=2) (by omega) (by omega) (by omega)
   by_cases e:(gt p.cs i-1) % 2=side
   .have o:gt cn ((gt p.cs i-1) / 2)<=9/\0<=gt cn ((gt p.cs i-1) / 2):=by rw[d,zw (by omega) (by omega)];have:=dA (p:=λc=>decide (lX side ((gt p.cs i-1) / 2) c)) (l:=p.cs.take i.toNat);rw[aK]at this;omega
    simp[hi,h,f,k,e];refine qz f k e ?_;refine LJ.e (i+1,pt cn ((gt p.cs i-1) / 2) (gt cn ((gt p.cs i-1) / 2)+1)) ?_;refine gO ?_;dsimp only;rw[j,d];exact acP (by omega) (by omega) e
   .simp[hi,h,f,e];refine lh f e ?_;refine LJ.e (i+1,cn) ?_;refine gO ?_;dsimp only;rw[j,d];exact Vp (.inr e)
  .simp[hi,h];refine gd ?_;refine LJ.e (i+1,cn) ?_;refine gO ?_;dsimp only;rw[j,d];exact Vp (by omega)
 .simp[hi];rw[d,ln (by omega),vu (by simp)];rfl
theorem Vq{side:Int}{K:Int}(d:1<=K/\K<=2):∀ {cs:List Int},(∀c∈cs,0<=c/\c<=2*K)->(cs.countP λc=>decide (lX side (-1) c))=(cs.countP λc=>decide (lX side 0 c))+(if K=2 then cs.countP λc=>decide (lX side 1 c)else 0)
 | [],_=>by simp
 | c::cs,h=>by
  have f:=h c (by simp);have a:=Vq (side:=side) d (cs:=cs) λx b=>h x (by simp[b]);simp only[cP,a]
  have e:(if decide (lX side (-1) c)=true then 1 else 0)=(if decide (lX side 0 c)=true then 1 else 0)+(if K=2 then(if decide (lX side 1 c)=true then 1 else 0)else 0):=by
   unfold lX;simp only[decide_eq_true_eq]
   by_cases h1:1<=c/\c<=12
   .have:gJ c=(c-1) / 2:=by unfold gJ;rw[if_pos h1]
    rw[this]
    by_cases hs:jY c=side
    .grind
    .simp[hs]
   .have:gJ c = -1:=by unfold gJ;rw[if_neg h1]
    simp[this]
  rw[e];split<;>omega
theorem f294(g:gi)(hg:gV g)(p:Pos)(a:iw g p)(c:Clause)(b:0<=c.kind/\c.kind<g.kinds.length):Wf T 364 [dG g,dP p,.agg c.cells] [] (Is (.b (decide (sL p p.side c.kind=0)))):=by have hs:=a.side;refine Yg Lz ?_;simp[Lz];refine Yt (f295 g hg p a p.side hs) ?_;simp;simp[zw b.1 b.2,<-SU];exact mK
theorem f296(g:gi)(hg:gV g)(p:Pos)(a:iw g p)(c:Clause)(f:0<=c.kind/\c.kind<g.kinds.length)(d:0<=c.n/\c.n<g.size):Wf T 366 [dG g,dP p,.agg c.cells] [] (Is (.b (decide (gt p.cs c.n=lQ c.kind (1-p.side))))):=by have hs:=a.side;have b:=a.size;have e:=hg.kinds;refine Yg LD ?_;simp[LD];refine gd ?_;refine Yt (f92 (k:=c.kind) (s:=1-p.side) (by omega) (by omega) (by omega) (by omega)) ?_;simp;simp[lQ]
theorem acN(cs:List Int)(side:Int):qd cs side 1 = [((cs.countP λc=>decide (lX side 0 c):Nat):Int)]:=by simp[qd,upto,List.range,List.range.loop]
theorem acO(cs:List Int)(side:Int):qd cs side 2 = [((cs.countP λc=>decide (lX side 0 c):Nat):Int),(cs.countP λc=>decide (lX side 1 c):Nat)]:=by simp[qd,upto,List.range,List.range.loop]
theorem f297(g:gi)(hg:gV g)(p:Pos)(b:iw g p)(c:Clause):Wf T 367 [dG g,dP p,.agg c.cells] [] (Is (.b (decide (sL p p.side (-1)<=c.n)))):=by
 have hs:=b.side;have j:=b.size;have m:=hg.jJ.size;have k:=hg.kinds;have f:=Vq (side:=p.side) (K:=g.kinds.length) (by omega) (cs:=p.cs) b.cs;have i:=dA (p:=λc=>decide (lX p.side 0 c)) (l:=p.cs);have h:=dA (p:=λc=>decide (lX p.side 1 c)) (l:=p.cs);rw[SU,f];refine Yg LF ?_;simp[LF];refine Yc (f295 g hg p b p.side hs) ?_;simp;rcases(show g.kinds.length=1\/g.kinds.length=2 by omega)with e|e
 .rw[e,acN];simp;generalize (p.cs.countP λc=>decide (lX p.side 0 c))=n0 at *;have a:gt [(n0:Int)] 0=n0:=rfl;refine gj.un ?_;refine kP.u ?_;simp[a];refine jP a ?_;refine kP.u ?_;simp[a]
 .rw[e,acO];simp;generalize (p.cs.countP λc=>decide (lX p.side 0 c))=n0 at *;generalize (p.cs.countP λc=>decide (lX p.side 1 c))=n1 at *;have a:gt [(n0:Int),n1] 0=n0:=rfl;have d:gt [(n0:Int),n1] 1=n1:=rfl;refine gj.un ?_;refine kP.u ?_;simp[a];refine jP a ?_;refine kP.u ?_;simp[d];refine jP d ?_;refine kP.u ?_;simp[d]
theorem f46(g:gi)(hg:gV g)(p:Pos)(j:iw g p):Wf T 113 [dG g,dP p] [] (Ey (λn:Int=>.tup [.i n,.b (decide (ended g p))]) λ_=>True):=by
 have r:=hg.clauses;refine Yg Db ?_;simp[Db];refine gj.e (0:Int) (λy=>[(2,.ptr 0 0 0),(3,.ptr 1 0 0),(9,dN 4 Clause.cells g.clauses),(10,.i g.clauses.length),(11,.i y)]) (λy=>[.row 43 0 g.cells,.row 46 0 p.cells]) (λy=>0<=y/\y<=g.clauses.length/\∀c∈g.clauses.take y.toNat,¬kX p c) (λy=>(g.clauses.length-y).toNat) ?_ ?_
 .simp
 rintro i ⟨i0,o,l⟩
 by_cases hi:i<g.clauses.length
 .have m:=gy i0 hi;have b:=hg.clause _ m;have q:=b.ok;have k:kX p (gt g.clauses i)->decide (ended g p)=true:=λh=>decide_eq_true ⟨_,m,h⟩
  have f:¬kX p (gt g.clauses i)->∀c∈g.clauses.take (i+1).toNat,¬kX p c:=λh c b=>by
   rw[jq i0 hi]at b;rcases List.mem_append.1 b with b|b
   .exact l c b
   .grind
  simp[hi];refine gd ?_;rcases(show(gt g.clauses i).cond=1\/(gt g.clauses i).cond=2\/(gt g.clauses i).cond=3 by omega)with e|e|e
  .simp[e];refine Yt (f294 g hg p j ⟨1,(gt g.clauses i).kind,(gt g.clauses i).n,(gt g.clauses i).out⟩ (by dsimp only;omega)) ?_;simp;have d:kX p (gt g.clauses i)=(sL p p.side (gt g.clauses i).kind=0):=by simp[kX,e]
   by_cases a:sL p p.side (gt g.clauses i).kind=0
   .simp[a];exact Ey.i (gt g.clauses i).out (by simp[k (d▸a)]) rfl trivial
   .simp[a];refine gd ?_;refine LJ.e (i+1) ?_;exact gO (f (d▸a))
  .simp[e];refine Yt (f296 g hg p j ⟨2,(gt g.clauses i).kind,(gt g.clauses i).n,(gt g.clauses i).out⟩ (by dsimp only;omega) (by dsimp only;omega)) ?_;simp;have d:kX p (gt g.clauses i)=(gt p.cs (gt g.clauses i).n=lQ (gt g.clauses i).kind (1-p.side)):=by simp[kX,e]
   by_cases a:gt p.cs (gt g.clauses i).n=lQ (gt g.clauses i).kind (1-p.side)
   .simp[a];exact Ey.i (gt g.clauses i).out (by simp[k (d▸a)]) rfl trivial
   .simp[a];refine gd ?_;refine LJ.e (i+1) ?_;exact gO (f (d▸a))
  .simp[e];refine Yt (f297 g hg p j ⟨3,(gt g.clauses i).kind,(gt g.clauses i).n,(gt g.clauses i).out⟩) ?_;simp;have d:kX p (gt g.clauses i)=(sL p p.side (-1)<=(gt g.clauses i).n):=by simp[kX,e]
   by_cases a:sL p p.side (-1)<=(gt g.clauses i).n
   .simp[a];exact Ey.i (gt g.clauses i).out (by simp[k (d▸a)]) rfl trivial
   .simp[a];refine gd ?_;refine LJ.e (i+1) ?_;exact gO (f (d▸a))
 .simp[hi];have:¬ended g p:=λ⟨c,b,h⟩=>l c (by rw[ln (by omega)];exact b) h;exact Ey.i 0 (by simp[this]) rfl trivial
