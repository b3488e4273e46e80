/- Part 20 of DisputeHonest. -/
import Derived.Test.YtmehofoficaelaaGreatDoorH18
set_option linter.all false
namespace Go.AL
open Go
@[simp] theorem auY(n v:Nat):kh n (.iw v)=decide (v<n):=rfl
@[simp] theorem au1(n v:Nat):mi n (.iw v)=decide (v<n):=rfl
@[simp] theorem auT(n:Nat)(cs:List D):kh n (.fH cs)=cs.all (mi n):=rfl
@[simp] theorem ath(n:Nat):nP n .km=true:=rfl
@[simp] theorem atj(n rf:Nat)(e:Env)(st:rT):nP n (.gM rf e st)=e.all λx=>kh n x.2:=rfl
theorem VJ{n m:Nat}(h:n<=m):iv n (List.range' n (m-n))=iv m []:=by unfold iv;rw[List.map_nil,ay,<-List.map_append,dg,dg];congr 1;have:=List.range'_append (s:=0) (m:=n) (n:=m-n) (step:=1);simp only[Nat.one_mul,aL]at this;rw[this];congr 1;omega
theorem Z4{n:Nat}{live:List Nat}{env:Env}{H:U}{r:Bool}(f:n<=H.length)(b:((forget live env).all λp=>kh n p.2)=true)
  (d:dedup (((H.take n).map (nN n)).flatten.filter (· < H.length))=List.range' n (H.length-n)) (e:jC H.length H):cut n live { env:=env,H:=H,marks:=[],gW:=r } = { env:=forget live env,H:=H,marks:=[],gW:=r }:=by
 by_cases h:H.length<=n\/Az live=true
 .unfold cut;dsimp only;rw[if_pos h]
 .unfold cut;dsimp only;rw[if_neg h];have g:((forget live env).map λp=>iH n p.2).flatten = []:=flatten_nil λp a=>MG (List.all_eq_true.1 b p a);rw[g,List.filter_nil,ay,br,d,VJ f];have c:=Gb (n:=H.length) (H:=H) (G:=[]) rfl e;rw[ay]at c;rw[c];congr 1
  conv=>rhs;rw[<-aS (forget live env)]
  exact ao λp a=>by rw[CQ (n:=n) (λu i=>CM (by omega)) (List.all_eq_true.1 b p a)];rfl
theorem adQ{n:Nat}{H:U}{d:D}(f:n<=H.length)(c:kh n d=true)
  (b:dedup (((H.take n).map (nN n)).flatten.filter (· < H.length))=List.range' n (H.length-n)) (e:jC H.length H):leave 0 n H d=(d,H):=by
 by_cases h:H.length<=n
 .exact V1 h 0
 .unfold leave;rw[if_neg (by omega)];simp only[br];rw[b,VJ f];have a:=Gb (n:=H.length) (H:=H) (G:=[]) rfl e;rw[ay]at a;rw[a,CQ (n:=n) (λu g=>CM (by omega)) c]
def Mn:Option Nat->D
 | some v'=>.iw v'
 | none=>.any
@[simp] theorem auC(v:Nat):Mn (some v) = .iw v:=rfl
@[simp] theorem auB:Mn none = .any:=rfl
@[simp] theorem auP(ρ:Nat->Option Nat)(H:U)(k v:Nat):fy ρ H (k+1) (.iw v)=Mn (ρ v):=by rw[fy,if_neg (by simp[closed])];unfold Mn;rfl
@[simp] theorem apf(l:List gh):closed (dN 6 gh.cells l)=true:=zd (λa=>by simp[fR]) l
end Go.AL
namespace Go.Proofs.YtmehofoficaelaaGreatDoor
open Go Go.AL Classical
set_option maxRecDepth 10000
set_option maxHeartbeats 4000000
theorem ND{a b:List Int}(hl:a.length=b.length)(h:∀k:Int,0<=k->k<a.length->gt a k=gt b k):a=b:=
 b6 hl λi h1 c=>by have:=h i (by omega) (by omega);simpa[gt,h1,c]using this
noncomputable def o3(cs:List Int)(side:Int)(K:Nat):List Int:=(upto K).map λk=>(cs.countP λc=>decide (kW side k c):Nat)
@[simp] theorem apx(cs:List Int)(side:Int)(K:Nat):(o3 cs side K).length=K:=by simp[o3,upto]
theorem xN{cs:List Int}{side:Int}{K:Nat}{k:Int}(h0:0<=k)(h:k<K):gt (o3 cs side K) k=(cs.countP λc=>decide (kW side k c):Nat):=by
 have h1:k.toNat<K:=by omega
 simp[o3,upto,gt,h1,bS h0]
theorem ZR{cs:List Int}{side:Int}{K:Nat}{c:Int}(d:0<c/\c<=12)(a:(c-1) / 2<K)(hs:(c-1) % 2=side):pt (o3 cs side K) ((c-1) / 2) (gt (o3 cs side K) ((c-1) / 2)+1)=o3 (cs ++ [c]) side K:=by
 have h0:0<=(c-1) / 2:=by omega
 have hl:=ig (l:=o3 cs side K) (n:=(c-1) / 2) (v:=gt (o3 cs side K) ((c-1) / 2)+1) h0 (by simpa using a);refine ND (by rw[hl];simp) λk k0 k1=>?_;rw[hl]at k1;simp at k1;have b:fX c=(c-1) / 2/\jr c=side:=by unfold fX jr;rw[if_pos (by omega),if_pos (by omega)];exact⟨rfl,hs⟩
 rw[o5 h0 (by simpa using a) k0,xN (cs:=cs ++ [c]) k0 k1,cL];simp only[cH,List.countP_nil,kW,b.1,b.2];split
 .rename_i e;subst e;rw[xN h0 a];simp[h0,kW]
 .rename_i e;rw[xN k0 k1];simp[kW];rw[if_neg (by omega)];simp
theorem SN{cs:List Int}{side:Int}{K:Nat}{c:Int}(h:c<=0\/(c-1) % 2≠side):o3 cs side K=o3 (cs ++ [c]) side K:=by
 refine ND (by simp) λk k0 k1=>?_;simp at k1;rw[xN k0 k1,xN k0 k1,cL];simp only[cH,List.countP_nil,kW]
 have:¬(0<=fX c/\jr c=side/\(k<0\/fX c=k)):=by
  unfold fX jr;split
  .omega
  .omega
 simp[this]
theorem ZS(side:Int)(K:Nat):o3 [] side K=List.replicate K 0:=by
 refine ND (by simp) λk k0 k1=>?_;simp at k1;rw[xN k0 k1];have:k.toNat<K:=by omega
 simp[gt,this]
theorem f295(g:fu)(hg:gu g)(p:Pos)(m:gJ g p)(side:Int)(hs:0<=side/\side<=1):Wf T 365 [dG g,dP p,.i side] [] (Is (dI (o3 p.cs side g.kinds.length))):=by
 have q:=m.size;have t:=hg.jb.size;have r:=hg.kinds;refine Yg I4 ?_;simp[I4];refine fo ?_;refine fE.e ((0,List.replicate g.kinds.length 0):Int×List Int) (λy=>[(2,.i side),(7,.fm 2 0 1 0 g.kinds.length),(15,dI p.cs),(16,.i p.cs.length),(17,.i y.1)]) (λy=>[.row 43 0 g.cells,.row 46 0 p.cells,.row 3 0 (cl f1 y.2)]) (λy=>0<=y.1/\y.1<=p.cs.length/\y.2=o3 (p.cs.take y.1.toNat) side g.kinds.length) (λy=>(p.cs.length-y.1).toNat) ?_ ?_
 .simp[ZS]
 rintro⟨i,cn⟩ ⟨i0,n,d⟩;dsimp only at i0 n d ⊢;have u:cn.length=g.kinds.length:=by rw[d];simp
 by_cases hi:i<p.cs.length
 .have s:=m.cs _ (fM i0 hi);have j:=iD i0 hi;have f:=iV (a:=gt p.cs i-1) (b:=2)
  by_cases h:0<gt p.cs i
  .have f:=f (by omega);have k:=tu (a:=gt p.cs i-1) (b:=2) (by omega) (by omega) (by omega)
   by_cases e:(gt p.cs i-1) % 2=side
   .have o:gt cn ((gt p.cs i-1) / 2)<=9/\0<=gt cn ((gt p.cs i-1) / 2):=by rw[d,xN (by omega) (by omega)];have:=de (p:=λc=>decide (kW side ((gt p.cs i-1) / 2) c)) (l:=p.cs.take i.toNat);rw[aK]at this;omega
    simp[hi,h,f,k,e];refine pR f k e ?_;refine LJ.e (i+1,pt cn ((gt p.cs i-1) / 2) (gt cn ((gt p.cs i-1) / 2)+1)) ?_;refine gg ?_;dsimp only;rw[j,d];exact ZR (by omega) (by omega) e
   .simp[hi,h,f,e];refine kl f e ?_;refine LJ.e (i+1,cn) ?_;refine gg ?_;dsimp only;rw[j,d];exact SN (.inr e)
  .simp[hi,h];refine fo ?_;refine LJ.e (i+1,cn) ?_;refine gg ?_;dsimp only;rw[j,d];exact SN (by omega)
 .simp[hi];rw[d,kq (by omega),tS (by simp)];rfl
theorem SO{side:Int}{K:Int}(d:1<=K/\K<=2):∀ {cs:List Int},(∀c∈cs,0<=c/\c<=2*K)->(cs.countP λc=>decide (kW side (-1) c))=(cs.countP λc=>decide (kW side 0 c))+(if K=2 then cs.countP λc=>decide (kW side 1 c)else 0)
 | [],_=>by simp
 | c::cs,h=>by
  have f:=h c (by simp);have a:=SO (side:=side) d (cs:=cs) λx b=>h x (by simp[b]);simp only[cH,a]
  have e:(if decide (kW side (-1) c)=true then 1 else 0)=(if decide (kW side 0 c)=true then 1 else 0)+(if K=2 then(if decide (kW side 1 c)=true then 1 else 0)else 0):=by
   unfold kW;simp only[decide_eq_true_eq]
   by_cases h1:1<=c/\c<=12
   .have:fX c=(c-1) / 2:=by unfold fX;rw[if_pos h1]
    rw[this]
    by_cases hs:jr c=side
    .grind
    .simp[hs]
   .have:fX c = -1:=by unfold fX;rw[if_neg h1]
    simp[this]
  rw[e];split<;>omega
theorem f294(g:fu)(hg:gu g)(p:Pos)(a:gJ g p)(c:Clause)(b:0<=c.kind/\c.kind<g.kinds.length):Wf T 364 [dG g,dP p,.agg c.cells] [] (Is (.b (decide (qx p p.side c.kind=0)))):=by have hs:=a.side;refine Yg I3 ?_;simp[I3];refine Yt (f295 g hg p a p.side hs) ?_;simp;simp[xN b.1 b.2,<-P7];exact lZ
theorem f296(g:fu)(hg:gu g)(p:Pos)(a:gJ g p)(c:Clause)(f:0<=c.kind/\c.kind<g.kinds.length)(d:0<=c.n/\c.n<g.size):Wf T 366 [dG g,dP p,.agg c.cells] [] (Is (.b (decide (gt p.cs c.n=kO c.kind (1-p.side))))):=by have hs:=a.side;have b:=a.size;have e:=hg.kinds;refine Yg I5 ?_;simp[I5];refine fo ?_;refine Yt (f92 (k:=c.kind) (s:=1-p.side) (by omega) (by omega) (by omega) (by omega)) ?_;simp;simp[kO]
theorem ZP(cs:List Int)(side:Int):o3 cs side 1 = [((cs.countP λc=>decide (kW side 0 c):Nat):Int)]:=by simp[o3,upto,List.range,List.range.loop]
theorem ZQ(cs:List Int)(side:Int):o3 cs side 2 = [((cs.countP λc=>decide (kW side 0 c):Nat):Int),(cs.countP λc=>decide (kW side 1 c):Nat)]:=by simp[o3,upto,List.range,List.range.loop]
theorem f297(g:fu)(hg:gu g)(p:Pos)(b:gJ g p)(c:Clause):Wf T 367 [dG g,dP p,.agg c.cells] [] (Is (.b (decide (qx p p.side (-1)<=c.n)))):=by
 have hs:=b.side;have j:=b.size;have m:=hg.jb.size;have k:=hg.kinds;have f:=SO (side:=p.side) (K:=g.kinds.length) (by omega) (cs:=p.cs) b.cs;have i:=de (p:=λc=>decide (kW p.side 0 c)) (l:=p.cs);have h:=de (p:=λc=>decide (kW p.side 1 c)) (l:=p.cs);rw[P7,f];refine Yg I6 ?_;simp[I6];refine Yc (f295 g hg p b p.side hs) ?_;simp;rcases(show g.kinds.length=1\/g.kinds.length=2 by omega)with e|e
 .rw[e,ZP];simp;generalize (p.cs.countP λc=>decide (kW p.side 0 c))=n0 at *;have a:gt [(n0:Int)] 0=n0:=rfl;refine fE.un ?_;refine jY.u ?_;simp[a];refine ja a ?_;refine jY.u ?_;simp[a]
 .rw[e,ZQ];simp;generalize (p.cs.countP λc=>decide (kW p.side 0 c))=n0 at *;generalize (p.cs.countP λc=>decide (kW p.side 1 c))=n1 at *;have a:gt [(n0:Int),n1] 0=n0:=rfl;have d:gt [(n0:Int),n1] 1=n1:=rfl;refine fE.un ?_;refine jY.u ?_;simp[a];refine ja a ?_;refine jY.u ?_;simp[d];refine ja d ?_;refine jY.u ?_;simp[d]
theorem f46(g:fu)(hg:gu g)(p:Pos)(j:gJ g p):Wf T 113 [dG g,dP p] [] (Ey (λn:Int=>.tup [.i n,.b (decide (ended g p))]) λ_=>True):=by
 have r:=hg.clauses;refine Yg Bf ?_;simp[Bf];refine fE.e (0:Int) (λy=>[(2,.ptr 0 0 0),(3,.ptr 1 0 0),(9,dN 4 Clause.cells g.clauses),(10,.i g.clauses.length),(11,.i y)]) (λy=>[.row 43 0 g.cells,.row 46 0 p.cells]) (λy=>0<=y/\y<=g.clauses.length/\∀c∈g.clauses.take y.toNat,¬kf p c) (λy=>(g.clauses.length-y).toNat) ?_ ?_
 .simp
 rintro i ⟨i0,o,l⟩
 by_cases hi:i<g.clauses.length
 .have m:=fM i0 hi;have b:=hg.clause _ m;have q:=b.ok;have k:kf p (gt g.clauses i)->decide (ended g p)=true:=λh=>decide_eq_true ⟨_,m,h⟩
  have f:¬kf p (gt g.clauses i)->∀c∈g.clauses.take (i+1).toNat,¬kf p c:=λh c b=>by
   rw[iD i0 hi]at b;rcases List.mem_append.1 b with b|b
   .exact l c b
   .grind
  simp[hi];refine fo ?_;rcases(show(gt g.clauses i).cond=1\/(gt g.clauses i).cond=2\/(gt g.clauses i).cond=3 by omega)with e|e|e
  .simp[e];refine Yt (f294 g hg p j ⟨1,(gt g.clauses i).kind,(gt g.clauses i).n,(gt g.clauses i).out⟩ (by dsimp only;omega)) ?_;simp;have d:kf p (gt g.clauses i)=(qx p p.side (gt g.clauses i).kind=0):=by simp[kf,e]
   by_cases a:qx p p.side (gt g.clauses i).kind=0
   .simp[a];exact Ey.i (gt g.clauses i).out (by simp[k (d▸a)]) rfl trivial
   .simp[a];refine fo ?_;refine LJ.e (i+1) ?_;exact gg (f (d▸a))
  .simp[e];refine Yt (f296 g hg p j ⟨2,(gt g.clauses i).kind,(gt g.clauses i).n,(gt g.clauses i).out⟩ (by dsimp only;omega) (by dsimp only;omega)) ?_;simp;have d:kf p (gt g.clauses i)=(gt p.cs (gt g.clauses i).n=kO (gt g.clauses i).kind (1-p.side)):=by simp[kf,e]
   by_cases a:gt p.cs (gt g.clauses i).n=kO (gt g.clauses i).kind (1-p.side)
   .simp[a];exact Ey.i (gt g.clauses i).out (by simp[k (d▸a)]) rfl trivial
   .simp[a];refine fo ?_;refine LJ.e (i+1) ?_;exact gg (f (d▸a))
  .simp[e];refine Yt (f297 g hg p j ⟨3,(gt g.clauses i).kind,(gt g.clauses i).n,(gt g.clauses i).out⟩) ?_;simp;have d:kf p (gt g.clauses i)=(qx p p.side (-1)<=(gt g.clauses i).n):=by simp[kf,e]
   by_cases a:qx p p.side (-1)<=(gt g.clauses i).n
   .simp[a];exact Ey.i (gt g.clauses i).out (by simp[k (d▸a)]) rfl trivial
   .simp[a];refine fo ?_;refine LJ.e (i+1) ?_;exact gg (f (d▸a))
 .simp[hi];have:¬ended g p:=λ⟨c,b,h⟩=>l c (by rw[kq (by omega)];exact b) h;exact Ey.i 0 (by simp[this]) rfl trivial
