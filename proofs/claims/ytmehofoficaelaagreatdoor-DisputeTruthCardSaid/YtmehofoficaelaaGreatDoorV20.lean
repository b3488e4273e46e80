/- Part 20 of DisputeTruth. -/
import Derived.Test.YtmehofoficaelaaGreatDoorV18
set_option linter.all false
namespace Go.AL
open Go
@[simp] theorem ax3(n v:Nat):jm n (.iP v)=decide (v<n):=rfl
@[simp] theorem ax6(n v:Nat):mU n (.iP v)=decide (v<n):=rfl
@[simp] theorem axY(n:Nat)(cs:List D):jm n (.gi cs)=cs.all (mU n):=rfl
@[simp] theorem aws(n:Nat):mT n .jv=true:=rfl
@[simp] theorem awu(n rf:Nat)(e:Env)(st:p9):mT n (.ia rf e st)=e.all λx=>jm n x.2:=rfl
theorem Yp{n m:Nat}(h:n<=m):iV n (List.range' n (m-n))=iV m []:=by unfold iV;rw[List.map_nil,az,<-List.map_append,cK,cK];congr 1;have:=List.range'_append (s:=0) (m:=n) (n:=m-n) (step:=1);simp only[Nat.one_mul,aQ]at this;rw[this];congr 1;omega
theorem acK{n:Nat}{live:List Nat}{env:Env}{H:U}{r:Bool}(f:n<=H.length)(b:((forget live env).all λp=>jm n p.2)=true)
  (d:dedup (((H.take n).map (oG n)).flatten.filter (· < H.length))=List.range' n (H.length-n)) (e:jl H.length H):cut n live { env:=env,H:=H,marks:=[],iq:=r } = { env:=forget live env,H:=H,marks:=[],iq:=r }:=by
 by_cases h:H.length<=n\/BR live=true
 .unfold cut;dsimp only;rw[if_pos h]
 .unfold cut;dsimp only;rw[if_neg h];have g:((forget live env).map λp=>ji n p.2).flatten = []:=flatten_nil λp a=>OL (List.all_eq_true.1 b p a);rw[g,List.filter_nil,az,bp,d,Yp f];have c:=Ig (n:=H.length) (H:=H) (G:=[]) rfl e;rw[az]at c;rw[c];congr 1
  conv=>rhs;rw[<-aY (forget live env)]
  exact au λp a=>by rw[Ep (n:=n) (λu i=>Ek (by omega)) (List.all_eq_true.1 b p a)];rfl
theorem agy{n:Nat}{H:U}{d:D}(f:n<=H.length)(c:jm n d=true)
  (b:dedup (((H.take n).map (oG n)).flatten.filter (· < H.length))=List.range' n (H.length-n)) (e:jl H.length H):leave 0 n H d=(d,H):=by
 by_cases h:H.length<=n
 .exact YK h 0
 .unfold leave;rw[if_neg (by omega)];simp only[bp];rw[b,Yp f];have a:=Ig (n:=H.length) (H:=H) (G:=[]) rfl e;rw[az]at a;rw[a,Ep (n:=n) (λu g=>Ek (by omega)) c]
def Ot:Option Nat->D
 | some v'=>.iP v'
 | none=>.any
@[simp] theorem axH(v:Nat):Ot (some v) = .iP v:=rfl
@[simp] theorem axG:Ot none = .any:=rfl
@[simp] theorem axU(ρ:Nat->Option Nat)(H:U)(k v:Nat):gd ρ H (k+1) (.iP v)=Ot (ρ v):=by rw[gd,if_neg (by simp[closed])];unfold Ot;rfl
@[simp] theorem aso(l:List gJ):closed (dN 6 gJ.cells l)=true:=AB (λa=>by simp[gw]) l
end Go.AL
namespace Go.Proofs.YtmehofoficaelaaGreatDoor
open Go Go.AL Classical
set_option maxRecDepth 10000
set_option maxHeartbeats 4000000
theorem PN{a b:List Int}(hl:a.length=b.length)(h:∀k:Int,0<=k->k<a.length->gt a k=gt b k):a=b:=
 bC hl λi h1 c=>by have:=h i (by omega) (by omega);simpa[gt,h1,c]using this
noncomputable def pM(cs:List Int)(side:Int)(K:Nat):List Int:=(upto K).map λk=>(cs.countP λc=>decide (lP side k c):Nat)
@[simp] theorem asF(cs:List Int)(side:Int)(K:Nat):(pM cs side K).length=K:=by simp[pM,upto]
theorem yZ{cs:List Int}{side:Int}{K:Nat}{k:Int}(h0:0<=k)(h:k<K):gt (pM cs side K) k=(cs.countP λc=>decide (lP side k c):Nat):=by
 have h1:k.toNat<K:=by omega
 simp[pM,upto,gt,h1,b6 h0]
theorem acy{cs:List Int}{side:Int}{K:Nat}{c:Int}(d:0<c/\c<=12)(a:(c-1) / 2<K)(hs:(c-1) % 2=side):pt (pM cs side K) ((c-1) / 2) (gt (pM cs side K) ((c-1) / 2)+1)=pM (cs ++ [c]) side K:=by
 have h0:0<=(c-1) / 2:=by omega
 have hl:=iH (l:=pM cs side K) (n:=(c-1) / 2) (v:=gt (pM cs side K) ((c-1) / 2)+1) h0 (by simpa using a);refine PN (by rw[hl];simp) λk k0 k1=>?_;rw[hl]at k1;simp at k1;have b:gC c=(c-1) / 2/\jS c=side:=by unfold gC jS;rw[if_pos (by omega),if_pos (by omega)];exact⟨rfl,hs⟩
 rw[pq h0 (by simpa using a) k0,yZ (cs:=cs ++ [c]) k0 k1,cU];simp only[cP,List.countP_nil,lP,b.1,b.2];split
 .rename_i e;subst e;rw[yZ h0 a];simp[h0,lP]
 .rename_i e;rw[yZ k0 k1];simp[lP];rw[if_neg (by omega)];simp
theorem U7{cs:List Int}{side:Int}{K:Nat}{c:Int}(h:c<=0\/(c-1) % 2≠side):pM cs side K=pM (cs ++ [c]) side K:=by
 refine PN (by simp) λk k0 k1=>?_;simp at k1;rw[yZ k0 k1,yZ k0 k1,cU];simp only[cP,List.countP_nil,lP]
 have:¬(0<=gC c/\jS c=side/\(k<0\/gC c=k)):=by
  unfold gC jS;split
  .omega
  .omega
 simp[this]
theorem acz(side:Int)(K:Nat):pM [] side K=List.replicate K 0:=by
 refine PN (by simp) λk k0 k1=>?_;simp at k1;rw[yZ k0 k1];have:k.toNat<K:=by omega
 simp[gt,this]
theorem f295(g:fY)(hg:gN g)(p:Pos)(m:ij g p)(side:Int)(hs:0<=side/\side<=1):Wf T 365 [dG g,dP p,.i side] [] (Is (dI (pM p.cs side g.kinds.length))):=by
 have q:=m.size;have t:=hg.jB.size;have r:=hg.kinds;refine Yg KX ?_;simp[KX];refine fQ ?_;refine fZ.e ((0,List.replicate g.kinds.length 0):Int×List Int) (λy=>[(2,.i side),(7,.fM 2 0 1 0 g.kinds.length),(15,dI p.cs),(16,.i p.cs.length),(17,.i y.1)]) (λy=>[.row 43 0 g.cells,.row 46 0 p.cells,.row 3 0 (cl f1 y.2)]) (λy=>0<=y.1/\y.1<=p.cs.length/\y.2=pM (p.cs.take y.1.toNat) side g.kinds.length) (λy=>(p.cs.length-y.1).toNat) ?_ ?_
 .simp[acz]
 rintro⟨i,cn⟩ ⟨i0,n,d⟩;dsimp only at i0 n d ⊢;have u:cn.length=g.kinds.length:=by rw[d];simp
 by_cases hi:i<p.cs.length
 .have s:=m.cs _ (gq i0 hi);have j:=jd i0 hi;have f:=jt (a:=gt p.cs i-1) (b:=2)
  by_cases h:0<gt p.cs i
  .have f:=f (by omega);have k:=uH (a:=gt p.cs i-1) (b:=2) (by omega) (by omega) (by omega)
   by_cases e:(gt p.cs i-1) % 2=side
   .have o:gt cn ((gt p.cs i-1) / 2)<=9/\0<=gt cn ((gt p.cs i-1) / 2):=by rw[d,yZ (by omega) (by omega)];have:=dz (p:=λc=>decide (lP side ((gt p.cs i-1) / 2) c)) (l:=p.cs.take i.toNat);rw[aK]at this;omega
    simp[hi,h,f,k,e];refine qJ f k e ?_;refine LJ.e (i+1,pt cn ((gt p.cs i-1) / 2) (gt cn ((gt p.cs i-1) / 2)+1)) ?_;refine gI ?_;dsimp only;rw[j,d];exact acy (by omega) (by omega) e
   .simp[hi,h,f,e];refine kM f e ?_;refine LJ.e (i+1,cn) ?_;refine gI ?_;dsimp only;rw[j,d];exact U7 (.inr e)
  .simp[hi,h];refine fQ ?_;refine LJ.e (i+1,cn) ?_;refine gI ?_;dsimp only;rw[j,d];exact U7 (by omega)
 .simp[hi];rw[d,kW (by omega),u6 (by simp)];rfl
theorem U8{side:Int}{K:Int}(d:1<=K/\K<=2):∀ {cs:List Int},(∀c∈cs,0<=c/\c<=2*K)->(cs.countP λc=>decide (lP side (-1) c))=(cs.countP λc=>decide (lP side 0 c))+(if K=2 then cs.countP λc=>decide (lP side 1 c)else 0)
 | [],_=>by simp
 | c::cs,h=>by
  have f:=h c (by simp);have a:=U8 (side:=side) d (cs:=cs) λx b=>h x (by simp[b]);simp only[cP,a]
  have e:(if decide (lP side (-1) c)=true then 1 else 0)=(if decide (lP side 0 c)=true then 1 else 0)+(if K=2 then(if decide (lP side 1 c)=true then 1 else 0)else 0):=by
   unfold lP;simp only[decide_eq_true_eq]
   by_cases h1:1<=c/\c<=12
   .have:gC c=(c-1) / 2:=by unfold gC;rw[if_pos h1]
    rw[this]
    by_cases hs:jS c=side
    .grind
    .simp[hs]
   .have:gC c = -1:=by unfold gC;rw[if_neg h1]
    simp[this]
  rw[e];split<;>omega
theorem f294(g:fY)(hg:gN g)(p:Pos)(a:ij g p)(c:Clause)(b:0<=c.kind/\c.kind<g.kinds.length):Wf T 364 [dG g,dP p,.agg c.cells] [] (Is (.b (decide (sh p p.side c.kind=0)))):=by have hs:=a.side;refine Yg KW ?_;simp[KW];refine Yt (f295 g hg p a p.side hs) ?_;simp;simp[yZ b.1 b.2,<-Sv];exact mE
theorem f296(g:fY)(hg:gN g)(p:Pos)(a:ij g p)(c:Clause)(f:0<=c.kind/\c.kind<g.kinds.length)(d:0<=c.n/\c.n<g.size):Wf T 366 [dG g,dP p,.agg c.cells] [] (Is (.b (decide (gt p.cs c.n=lI c.kind (1-p.side))))):=by have hs:=a.side;have b:=a.size;have e:=hg.kinds;refine Yg KY ?_;simp[KY];refine fQ ?_;refine Yt (f92 (k:=c.kind) (s:=1-p.side) (by omega) (by omega) (by omega) (by omega)) ?_;simp;simp[lI]
theorem acw(cs:List Int)(side:Int):pM cs side 1 = [((cs.countP λc=>decide (lP side 0 c):Nat):Int)]:=by simp[pM,upto,List.range,List.range.loop]
theorem acx(cs:List Int)(side:Int):pM cs side 2 = [((cs.countP λc=>decide (lP side 0 c):Nat):Int),(cs.countP λc=>decide (lP side 1 c):Nat)]:=by simp[pM,upto,List.range,List.range.loop]
theorem f297(g:fY)(hg:gN g)(p:Pos)(b:ij g p)(c:Clause):Wf T 367 [dG g,dP p,.agg c.cells] [] (Is (.b (decide (sh p p.side (-1)<=c.n)))):=by
 have hs:=b.side;have j:=b.size;have m:=hg.jB.size;have k:=hg.kinds;have f:=U8 (side:=p.side) (K:=g.kinds.length) (by omega) (cs:=p.cs) b.cs;have i:=dz (p:=λc=>decide (lP p.side 0 c)) (l:=p.cs);have h:=dz (p:=λc=>decide (lP p.side 1 c)) (l:=p.cs);rw[Sv,f];refine Yg KZ ?_;simp[KZ];refine Yc (f295 g hg p b p.side hs) ?_;simp;rcases(show g.kinds.length=1\/g.kinds.length=2 by omega)with e|e
 .rw[e,acw];simp;generalize (p.cs.countP λc=>decide (lP p.side 0 c))=n0 at *;have a:gt [(n0:Int)] 0=n0:=rfl;refine fZ.un ?_;refine kH.u ?_;simp[a];refine jH a ?_;refine kH.u ?_;simp[a]
 .rw[e,acx];simp;generalize (p.cs.countP λc=>decide (lP p.side 0 c))=n0 at *;generalize (p.cs.countP λc=>decide (lP p.side 1 c))=n1 at *;have a:gt [(n0:Int),n1] 0=n0:=rfl;have d:gt [(n0:Int),n1] 1=n1:=rfl;refine fZ.un ?_;refine kH.u ?_;simp[a];refine jH a ?_;refine kH.u ?_;simp[d];refine jH d ?_;refine kH.u ?_;simp[d]
theorem f46(g:fY)(hg:gN g)(p:Pos)(j:ij g p):Wf T 113 [dG g,dP p] [] (Ey (λn:Int=>.tup [.i n,.b (decide (ended g p))]) λ_=>True):=by
 have r:=hg.clauses;refine Yg CE ?_;simp[CE];refine fZ.e (0:Int) (λy=>[(2,.ptr 0 0 0),(3,.ptr 1 0 0),(9,dN 4 Clause.cells g.clauses),(10,.i g.clauses.length),(11,.i y)]) (λy=>[.row 43 0 g.cells,.row 46 0 p.cells]) (λy=>0<=y/\y<=g.clauses.length/\∀c∈g.clauses.take y.toNat,¬kO p c) (λy=>(g.clauses.length-y).toNat) ?_ ?_
 .simp
 rintro i ⟨i0,o,l⟩
 by_cases hi:i<g.clauses.length
 .have m:=gq i0 hi;have b:=hg.clause _ m;have q:=b.ok;have k:kO p (gt g.clauses i)->decide (ended g p)=true:=λh=>decide_eq_true ⟨_,m,h⟩
  have f:¬kO p (gt g.clauses i)->∀c∈g.clauses.take (i+1).toNat,¬kO p c:=λh c b=>by
   rw[jd i0 hi]at b;rcases List.mem_append.1 b with b|b
   .exact l c b
   .grind
  simp[hi];refine fQ ?_;rcases(show(gt g.clauses i).cond=1\/(gt g.clauses i).cond=2\/(gt g.clauses i).cond=3 by omega)with e|e|e
  .simp[e];refine Yt (f294 g hg p j ⟨1,(gt g.clauses i).kind,(gt g.clauses i).n,(gt g.clauses i).out⟩ (by dsimp only;omega)) ?_;simp;have d:kO p (gt g.clauses i)=(sh p p.side (gt g.clauses i).kind=0):=by simp[kO,e]
   by_cases a:sh p p.side (gt g.clauses i).kind=0
   .simp[a];exact Ey.i (gt g.clauses i).out (by simp[k (d▸a)]) rfl trivial
   .simp[a];refine fQ ?_;refine LJ.e (i+1) ?_;exact gI (f (d▸a))
  .simp[e];refine Yt (f296 g hg p j ⟨2,(gt g.clauses i).kind,(gt g.clauses i).n,(gt g.clauses i).out⟩ (by dsimp only;omega) (by dsimp only;omega)) ?_;simp;have d:kO p (gt g.clauses i)=(gt p.cs (gt g.clauses i).n=lI (gt g.clauses i).kind (1-p.side)):=by simp[kO,e]
   by_cases a:gt p.cs (gt g.clauses i).n=lI (gt g.clauses i).kind (1-p.side)
   .simp[a];exact Ey.i (gt g.clauses i).out (by simp[k (d▸a)]) rfl trivial
   .simp[a];refine fQ ?_;refine LJ.e (i+1) ?_;exact gI (f (d▸a))
  .simp[e];refine Yt (f297 g hg p j ⟨3,(gt g.clauses i).kind,(gt g.clauses i).n,(gt g.clauses i).out⟩) ?_;simp;have d:kO p (gt g.clauses i)=(sh p p.side (-1)<=(gt g.clauses i).n):=by simp[kO,e]
   by_cases a:sh p p.side (-1)<=(gt g.clauses i).n
   .simp[a];exact Ey.i (gt g.clauses i).out (by simp[k (d▸a)]) rfl trivial
   .simp[a];refine fQ ?_;refine LJ.e (i+1) ?_;exact gI (f (d▸a))
 .simp[hi];have:¬ended g p:=λ⟨c,b,h⟩=>l c (by rw[kW (by omega)];exact b) h;exact Ey.i 0 (by simp[this]) rfl trivial
