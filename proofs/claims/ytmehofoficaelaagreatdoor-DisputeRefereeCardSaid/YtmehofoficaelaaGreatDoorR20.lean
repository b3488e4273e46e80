/- Part 20 of DisputeReferee. -/
import Derived.Test.YtmehofoficaelaaGreatDoorR18
set_option linter.all false
namespace Go.AL
open Go
@[simp] theorem avE(n v:Nat):kA n (.iH v)=decide (v<n):=rfl
@[simp] theorem avH(n v:Nat):mB n (.iH v)=decide (v<n):=rfl
@[simp] theorem avz(n:Nat)(cs:List D):kA n (.fV cs)=cs.all (mB n):=rfl
@[simp] theorem at0(n:Nat):n9 n .kD=true:=rfl
@[simp] theorem at3(n rf:Nat)(e:Env)(st:sw):n9 n (.gV rf e st)=e.all λx=>kA n x.2:=rfl
theorem Wb{n m:Nat}(h:n<=m):iG n (List.range' n (m-n))=iG m []:=by unfold iG;rw[List.map_nil,ax,<-List.map_append,dj,dj];congr 1;have:=List.range'_append (s:=0) (m:=n) (n:=m-n) (step:=1);simp only[Nat.one_mul,aM]at this;rw[this];congr 1;omega
theorem aaG{n:Nat}{live:List Nat}{env:Env}{H:U}{r:Bool}(f:n<=H.length)(b:((forget live env).all λp=>kA n p.2)=true)
  (d:dedup (((H.take n).map (nZ n)).flatten.filter (· < H.length))=List.range' n (H.length-n)) (e:jO H.length H):cut n live { env:=env,H:=H,marks:=[],ik:=r } = { env:=forget live env,H:=H,marks:=[],ik:=r }:=by
 by_cases h:H.length<=n\/A6 live=true
 .unfold cut;dsimp only;rw[if_pos h]
 .unfold cut;dsimp only;rw[if_neg h];have g:((forget live env).map λp=>iT n p.2).flatten = []:=flatten_nil λp a=>M8 (List.all_eq_true.1 b p a);rw[g,List.filter_nil,ax,bG,d,Wb f];have c:=GK (n:=H.length) (H:=H) (G:=[]) rfl e;rw[ax]at c;rw[c];congr 1
  conv=>rhs;rw[<-aT (forget live env)]
  exact ak λp a=>by rw[Dn (n:=n) (λu i=>Di (by omega)) (List.all_eq_true.1 b p a)];rfl
theorem aey{n:Nat}{H:U}{d:D}(f:n<=H.length)(c:kA n d=true)
  (b:dedup (((H.take n).map (nZ n)).flatten.filter (· < H.length))=List.range' n (H.length-n)) (e:jO H.length H):leave 0 n H d=(d,H):=by
 by_cases h:H.length<=n
 .exact Wx h 0
 .unfold leave;rw[if_neg (by omega)];simp only[bG];rw[b,Wb f];have a:=GK (n:=H.length) (H:=H) (G:=[]) rfl e;rw[ax]at a;rw[a,Dn (n:=n) (λu g=>Di (by omega)) c]
def MP:Option Nat->D
 | some v'=>.iH v'
 | none=>.any
@[simp] theorem avi(v:Nat):MP (some v) = .iH v:=rfl
@[simp] theorem avh:MP none = .any:=rfl
@[simp] theorem avv(ρ:Nat->Option Nat)(H:U)(k v:Nat):fL ρ H (k+1) (.iH v)=MP (ρ v):=by rw[fL,if_neg (by simp[closed])];unfold MP;rfl
@[simp] theorem apV(l:List gy):closed (dN 6 gy.cells l)=true:=zJ (λa=>by simp[gh]) l
end Go.AL
namespace Go.Proofs.YtmehofoficaelaaGreatDoor
open Go Go.AL Classical
set_option maxRecDepth 10000
set_option maxHeartbeats 4000000
theorem N4{a b:List Int}(hl:a.length=b.length)(h:∀k:Int,0<=k->k<a.length->gt a k=gt b k):a=b:=
 bQ hl λi h1 c=>by have:=h i (by omega) (by omega);simpa[gt,h1,c]using this
noncomputable def pj(cs:List Int)(side:Int)(K:Nat):List Int:=(upto K).map λk=>(cs.countP λc=>decide (lA side k c):Nat)
@[simp] theorem aqc(cs:List Int)(side:Int)(K:Nat):(pj cs side K).length=K:=by simp[pj,upto]
theorem yj{cs:List Int}{side:Int}{K:Nat}{k:Int}(h0:0<=k)(h:k<K):gt (pj cs side K) k=(cs.countP λc=>decide (lA side k c):Nat):=by
 have h1:k.toNat<K:=by omega
 simp[pj,upto,gt,h1,bV h0]
theorem aat{cs:List Int}{side:Int}{K:Nat}{c:Int}(d:0<c/\c<=12)(a:(c-1) / 2<K)(hs:(c-1) % 2=side):pt (pj cs side K) ((c-1) / 2) (gt (pj cs side K) ((c-1) / 2)+1)=pj (cs ++ [c]) side K:=by
 have h0:0<=(c-1) / 2:=by omega
 have hl:=iq (l:=pj cs side K) (n:=(c-1) / 2) (v:=gt (pj cs side K) ((c-1) / 2)+1) h0 (by simpa using a);refine N4 (by rw[hl];simp) λk k0 k1=>?_;rw[hl]at k1;simp at k1;have b:gi c=(c-1) / 2/\jD c=side:=by unfold gi jD;rw[if_pos (by omega),if_pos (by omega)];exact⟨rfl,hs⟩
 rw[oz h0 (by simpa using a) k0,yj (cs:=cs ++ [c]) k0 k1,cL];simp only[cH,List.countP_nil,lA,b.1,b.2];split
 .rename_i e;subst e;rw[yj h0 a];simp[h0,lA]
 .rename_i e;rw[yj k0 k1];simp[lA];rw[if_neg (by omega)];simp
theorem Ti{cs:List Int}{side:Int}{K:Nat}{c:Int}(h:c<=0\/(c-1) % 2≠side):pj cs side K=pj (cs ++ [c]) side K:=by
 refine N4 (by simp) λk k0 k1=>?_;simp at k1;rw[yj k0 k1,yj k0 k1,cL];simp only[cH,List.countP_nil,lA]
 have:¬(0<=gi c/\jD c=side/\(k<0\/gi c=k)):=by
  unfold gi jD;split
  .omega
  .omega
 simp[this]
theorem aau(side:Int)(K:Nat):pj [] side K=List.replicate K 0:=by
 refine N4 (by simp) λk k0 k1=>?_;simp at k1;rw[yj k0 k1];have:k.toNat<K:=by omega
 simp[gt,this]
theorem f295(g:fH)(hg:gF g)(p:Pos)(m:gT g p)(side:Int)(hs:0<=side/\side<=1):Wf T 365 [dG g,dP p,.i side] [] (Is (dI (pj p.cs side g.kinds.length))):=by
 have q:=m.size;have t:=hg.jm.size;have r:=hg.kinds;refine Yg Jw ?_;simp[Jw];refine fD ?_;refine fO.e ((0,List.replicate g.kinds.length 0):Int×List Int) (λy=>[(2,.i side),(7,.fy 2 0 1 0 g.kinds.length),(15,dI p.cs),(16,.i p.cs.length),(17,.i y.1)]) (λy=>[.row 43 0 g.cells,.row 46 0 p.cells,.row 3 0 (cl f1 y.2)]) (λy=>0<=y.1/\y.1<=p.cs.length/\y.2=pj (p.cs.take y.1.toNat) side g.kinds.length) (λy=>(p.cs.length-y.1).toNat) ?_ ?_
 .simp[aau]
 rintro⟨i,cn⟩ ⟨i0,n,d⟩;dsimp only at i0 n d ⊢;have u:cn.length=g.kinds.length:=by rw[d];simp
 by_cases hi:i<p.cs.length
 .have s:=m.cs _ (fZ i0 hi);have j:=iO i0 hi;have f:=jd (a:=gt p.cs i-1) (b:=2)
  by_cases h:0<gt p.cs i
  .have f:=f (by omega);have k:=tO (a:=gt p.cs i-1) (b:=2) (by omega) (by omega) (by omega)
   by_cases e:(gt p.cs i-1) % 2=side
   .have o:gt cn ((gt p.cs i-1) / 2)<=9/\0<=gt cn ((gt p.cs i-1) / 2):=by rw[d,yj (by omega) (by omega)];have:=dh (p:=λc=>decide (lA side ((gt p.cs i-1) / 2) c)) (l:=p.cs.take i.toNat);rw[aJ]at this;omega
    simp[hi,h,f,k,e];refine pe f k e ?_;refine LJ.e (i+1,pt cn ((gt p.cs i-1) / 2) (gt cn ((gt p.cs i-1) / 2)+1)) ?_;refine gx ?_;dsimp only;rw[j,d];exact aat (by omega) (by omega) e
   .simp[hi,h,f,e];refine ku f e ?_;refine LJ.e (i+1,cn) ?_;refine gx ?_;dsimp only;rw[j,d];exact Ti (.inr e)
  .simp[hi,h];refine fD ?_;refine LJ.e (i+1,cn) ?_;refine gx ?_;dsimp only;rw[j,d];exact Ti (by omega)
 .simp[hi];rw[d,kG (by omega),uq (by simp)];rfl
theorem Tj{side:Int}{K:Int}(d:1<=K/\K<=2):∀ {cs:List Int},(∀c∈cs,0<=c/\c<=2*K)->(cs.countP λc=>decide (lA side (-1) c))=(cs.countP λc=>decide (lA side 0 c))+(if K=2 then cs.countP λc=>decide (lA side 1 c)else 0)
 | [],_=>by simp
 | c::cs,h=>by
  have f:=h c (by simp);have a:=Tj (side:=side) d (cs:=cs) λx b=>h x (by simp[b]);simp only[cH,a]
  have e:(if decide (lA side (-1) c)=true then 1 else 0)=(if decide (lA side 0 c)=true then 1 else 0)+(if K=2 then(if decide (lA side 1 c)=true then 1 else 0)else 0):=by
   unfold lA;simp only[decide_eq_true_eq]
   by_cases h1:1<=c/\c<=12
   .have:gi c=(c-1) / 2:=by unfold gi;rw[if_pos h1]
    rw[this]
    by_cases hs:jD c=side
    .grind
    .simp[hs]
   .have:gi c = -1:=by unfold gi;rw[if_neg h1]
    simp[this]
  rw[e];split<;>omega
theorem f294(g:fH)(hg:gF g)(p:Pos)(a:gT g p)(c:Clause)(b:0<=c.kind/\c.kind<g.kinds.length):Wf T 364 [dG g,dP p,.agg c.cells] [] (Is (.b (decide (rC p p.side c.kind=0)))):=by have hs:=a.side;refine Yg Jv ?_;simp[Jv];refine Yt (f295 g hg p a p.side hs) ?_;simp;simp[yj b.1 b.2,<-Qy];exact mE
theorem f296(g:fH)(hg:gF g)(p:Pos)(a:gT g p)(c:Clause)(f:0<=c.kind/\c.kind<g.kinds.length)(d:0<=c.n/\c.n<g.size):Wf T 366 [dG g,dP p,.agg c.cells] [] (Is (.b (decide (gt p.cs c.n=lj c.kind (1-p.side))))):=by have hs:=a.side;have b:=a.size;have e:=hg.kinds;refine Yg Jx ?_;simp[Jx];refine fD ?_;refine Yt (f92 (k:=c.kind) (s:=1-p.side) (by omega) (by omega) (by omega) (by omega)) ?_;simp;simp[lj]
theorem aar(cs:List Int)(side:Int):pj cs side 1 = [((cs.countP λc=>decide (lA side 0 c):Nat):Int)]:=by simp[pj,upto,List.range,List.range.loop]
theorem aas(cs:List Int)(side:Int):pj cs side 2 = [((cs.countP λc=>decide (lA side 0 c):Nat):Int),(cs.countP λc=>decide (lA side 1 c):Nat)]:=by simp[pj,upto,List.range,List.range.loop]
theorem f297(g:fH)(hg:gF g)(p:Pos)(b:gT g p)(c:Clause):Wf T 367 [dG g,dP p,.agg c.cells] [] (Is (.b (decide (rC p p.side (-1)<=c.n)))):=by
 have hs:=b.side;have j:=b.size;have m:=hg.jm.size;have k:=hg.kinds;have f:=Tj (side:=p.side) (K:=g.kinds.length) (by omega) (cs:=p.cs) b.cs;have i:=dh (p:=λc=>decide (lA p.side 0 c)) (l:=p.cs);have h:=dh (p:=λc=>decide (lA p.side 1 c)) (l:=p.cs);rw[Qy,f];refine Yg Jy ?_;simp[Jy];refine Yc (f295 g hg p b p.side hs) ?_;simp;rcases(show g.kinds.length=1\/g.kinds.length=2 by omega)with e|e
 .rw[e,aar];simp;generalize (p.cs.countP λc=>decide (lA p.side 0 c))=n0 at *;have a:gt [(n0:Int)] 0=n0:=rfl;refine fO.un ?_;refine kj.u ?_;simp[a];refine jw a ?_;refine kj.u ?_;simp[a]
 .rw[e,aas];simp;generalize (p.cs.countP λc=>decide (lA p.side 0 c))=n0 at *;generalize (p.cs.countP λc=>decide (lA p.side 1 c))=n1 at *;have a:gt [(n0:Int),n1] 0=n0:=rfl;have d:gt [(n0:Int),n1] 1=n1:=rfl;refine fO.un ?_;refine kj.u ?_;simp[a];refine jw a ?_;refine kj.u ?_;simp[d];refine jw d ?_;refine kj.u ?_;simp[d]
theorem f46(g:fH)(hg:gF g)(p:Pos)(j:gT g p):Wf T 113 [dG g,dP p] [] (Ey (λn:Int=>.tup [.i n,.b (decide (ended g p))]) λ_=>True):=by
 have r:=hg.clauses;refine Yg BM ?_;simp[BM];refine fO.e (0:Int) (λy=>[(2,.ptr 0 0 0),(3,.ptr 1 0 0),(9,dN 4 Clause.cells g.clauses),(10,.i g.clauses.length),(11,.i y)]) (λy=>[.row 43 0 g.cells,.row 46 0 p.cells]) (λy=>0<=y/\y<=g.clauses.length/\∀c∈g.clauses.take y.toNat,¬kz p c) (λy=>(g.clauses.length-y).toNat) ?_ ?_
 .simp
 rintro i ⟨i0,o,l⟩
 by_cases hi:i<g.clauses.length
 .have m:=fZ i0 hi;have b:=hg.clause _ m;have q:=b.ok;have k:kz p (gt g.clauses i)->decide (ended g p)=true:=λh=>decide_eq_true ⟨_,m,h⟩
  have f:¬kz p (gt g.clauses i)->∀c∈g.clauses.take (i+1).toNat,¬kz p c:=λh c b=>by
   rw[iO i0 hi]at b;rcases List.mem_append.1 b with b|b
   .exact l c b
   .grind
  simp[hi];refine fD ?_;rcases(show(gt g.clauses i).cond=1\/(gt g.clauses i).cond=2\/(gt g.clauses i).cond=3 by omega)with e|e|e
  .simp[e];refine Yt (f294 g hg p j ⟨1,(gt g.clauses i).kind,(gt g.clauses i).n,(gt g.clauses i).out⟩ (by dsimp only;omega)) ?_;simp;have d:kz p (gt g.clauses i)=(rC p p.side (gt g.clauses i).kind=0):=by simp[kz,e]
   by_cases a:rC p p.side (gt g.clauses i).kind=0
   .simp[a];exact Ey.i (gt g.clauses i).out (by simp[k (d▸a)]) rfl trivial
   .simp[a];refine fD ?_;refine LJ.e (i+1) ?_;exact gx (f (d▸a))
  .simp[e];refine Yt (f296 g hg p j ⟨2,(gt g.clauses i).kind,(gt g.clauses i).n,(gt g.clauses i).out⟩ (by dsimp only;omega) (by dsimp only;omega)) ?_;simp;have d:kz p (gt g.clauses i)=(gt p.cs (gt g.clauses i).n=lj (gt g.clauses i).kind (1-p.side)):=by simp[kz,e]
   by_cases a:gt p.cs (gt g.clauses i).n=lj (gt g.clauses i).kind (1-p.side)
   .simp[a];exact Ey.i (gt g.clauses i).out (by simp[k (d▸a)]) rfl trivial
   .simp[a];refine fD ?_;refine LJ.e (i+1) ?_;exact gx (f (d▸a))
  .simp[e];refine Yt (f297 g hg p j ⟨3,(gt g.clauses i).kind,(gt g.clauses i).n,(gt g.clauses i).out⟩) ?_;simp;have d:kz p (gt g.clauses i)=(rC p p.side (-1)<=(gt g.clauses i).n):=by simp[kz,e]
   by_cases a:rC p p.side (-1)<=(gt g.clauses i).n
   .simp[a];exact Ey.i (gt g.clauses i).out (by simp[k (d▸a)]) rfl trivial
   .simp[a];refine fD ?_;refine LJ.e (i+1) ?_;exact gx (f (d▸a))
 .simp[hi];have:¬ended g p:=λ⟨c,b,h⟩=>l c (by rw[kG (by omega)];exact b) h;exact Ey.i 0 (by simp[this]) rfl trivial
