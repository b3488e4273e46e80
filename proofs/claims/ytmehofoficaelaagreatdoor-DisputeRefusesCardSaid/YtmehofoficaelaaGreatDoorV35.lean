/- 35 -/
import Derived.Test.YtmehofoficaelaaGreatDoorV25
set_option linter.all false
open Bool renaming false→aE,true→bs
open List renaming getD_eq_getElem?_getD→bb,length_map→b4,getElem_map→cc,mem_singleton→cp,length→List.l
open Int renaming toNat→Int.n
namespace Go.Proofs.YtmehofoficaelaaGreatDoor
open Go Go.AL Classical
set_option maxRecDepth 10000
set_option maxHeartbeats 4000000
def QH(v:List gg)(b:List Bool):Nat->Int
 | 0 => -1
 | n+1=>if gt b (n:Int)=aE/\(gt v (n:Int)).1≠2 then max (QH v b n) (gt v (n:Int)).2 else QH v b n
@[simp] theorem auh(v:List gg)(b:List Bool):QH v b 0 = -1:=rfl
def Oc(b:List Bool)(part:List Int)(n:Int):Nat->Int×Int
 | 0=>(0,-1)
 | k+1=>if gt b (gt part (k:Int))=bs/\u0 (gt part (k:Int)) n≠(Oc b part n k).2 then((Oc b part n k).1+1,u0 (gt part (k:Int)) n)else Oc b part n k
@[simp] theorem avn(b:List Bool)(part:List Int)(n:Int):Oc b part n 0=(0,-1):=rfl
noncomputable def Bg(g:gq)(p:Pos):Int:=if ended g p then(gt g.clauses (uL g p)).out else 0
def adu{g:gq}{p:Pos}{i:Int}(i0:0<=i)(hi:i<g.clauses.l)(d:∀c∈g.clauses.take i.n,¬ln p c)(h:ln p (gt g.clauses i)):Bg g p=(gt g.clauses i).out:=by
 have a:ended g p:=⟨_,gF i0 hi,h⟩
 have b:g.clauses.findIdx (λc=>decide (ln p c))=i.n:=by
  rw[List.findIdx_eq U];refine⟨?_,λj e=>?_⟩
  .have:gt g.clauses i=g.clauses[i.n]:=by unfold gt;rw[bb,List.getElem?_eq_getElem U];rfl
   rw[<-this];simpa using h
  .simp only[decide_eq_false_iff_not];refine d _ ?_;rw[dM];exact⟨j,U,rfl⟩
 unfold Bg uL;rw[if_pos a,if_pos a,b];congr 1
def ae0(g:gq)(hg:gR g)(p:Pos)(l:iC g p):Wf T 113 [dG g,dP p] [] (Is (.tup [.i (Bg g p),.b (decide (ended g p))])):=by
 have r:=hg.clauses;refine Yg Dd ?_;simp[Dd];refine gx.e (0:Int) (λy=>[(2,.ptr 0 0 0),(3,.ptr 1 0 0),(9,dN 4 Clause.cells g.clauses),(10,.i g.clauses.l),(11,.i y)]) (λy=>[.row 43 0 g.cells,.row 46 0 p.cells]) (λy=>0<=y/\y<=g.clauses.l/\∀c∈g.clauses.take y.n,¬ln p c) (λy=>(g.clauses.l-y).n) ?_ ?_
 .simp
 rintro i ⟨i0,o,k⟩
 by_cases hi:i<g.clauses.l
 .have m:=gF i0 hi;have d:=hg.clause _ m;have q:=d.ok;have s:ln p (gt g.clauses i)->decide (ended g p)=true:=λh=>decide_eq_true ⟨_,m,h⟩;have n:ln p (gt g.clauses i)->ended g p:=λh=>⟨_,m,h⟩;have f:ln p (gt g.clauses i)->Bg g p=(gt g.clauses i).out:=λh=>adu i0 hi k h
  have j:¬ln p (gt g.clauses i)->∀c∈g.clauses.take (i+1).n,¬ln p c:=λh c d=>by
   rw[jt i0 hi]at d;rcases aj.1 d with d|d
   .exact k c d
   .rw[cp.1 d];exact h
  simp[hi];refine gh ?_;rcases(U:(gt g.clauses i).cond=1\/(gt g.clauses i).cond=2\/(gt g.clauses i).cond=3)with e|e|e
  .simp[e];refine Yt (f294 g hg p l ⟨1,(gt g.clauses i).kind,(gt g.clauses i).n,(gt g.clauses i).out⟩ gJ) ?_;simp;have b:ln p (gt g.clauses i)=(sN p p.side (gt g.clauses i).kind=0):=by simp[ln,e]
   by_cases a:sN p p.side (gt g.clauses i).kind=0
   .simp[a];exact⟨(f (b▸a)).symm,n (b▸a)⟩
   .simp[a];refine gh ?_;refine LJ.e (i+1) ?_;exact gX (j (b▸a))
  .simp[e];refine Yt (f296 g hg p l ⟨2,(gt g.clauses i).kind,(gt g.clauses i).n,(gt g.clauses i).out⟩ gJ gJ) ?_;simp;have b:ln p (gt g.clauses i)=(gt p.cs (gt g.clauses i).n=l5 (gt g.clauses i).kind (1-p.side)):=by simp[ln,e]
   by_cases a:gt p.cs (gt g.clauses i).n=l5 (gt g.clauses i).kind (1-p.side)
   .simp[a];exact⟨(f (b▸a)).symm,n (b▸a)⟩
   .simp[a];refine gh ?_;refine LJ.e (i+1) ?_;exact gX (j (b▸a))
  .simp[e];refine Yt (f297 g hg p l ⟨3,(gt g.clauses i).kind,(gt g.clauses i).n,(gt g.clauses i).out⟩) ?_;simp;have b:ln p (gt g.clauses i)=(sN p p.side (-1)<=(gt g.clauses i).n):=by simp[ln,e]
   by_cases a:sN p p.side (-1)<=(gt g.clauses i).n
   .simp[a];exact⟨(f (b▸a)).symm,n (b▸a)⟩
   .simp[a];refine gh ?_;refine LJ.e (i+1) ?_;exact gX (j (b▸a))
 .simp[hi];have:¬ended g p:=λ⟨c,d,h⟩=>k c (by rw[lC U];exact d) h;simp[Bg,this]
def f54(g:gq)(hg:gR g)(p:Pos)(a:iC g p):Wf T 58 [dG g,dP p] [] (Is (.tup [.i (stat g p).1,.b (stat g p).2])):=by
 have b:ended g p->iY g p = []:=Ou;refine Yg LL ?_;simp[LL];refine Yc (ae0 g hg p a) ?_;simp
 by_cases h0:ended g p
 .simp[h0,stat,Bg,b h0]
 .simp[h0,stat,Bg];refine Yc (f26 g hg p a) ?_;simp;refine kj ?_ ?_<;>intro h
  all_goals simp[h0, *]
set_option maxHeartbeats 8000000
def lY(v:List gg)(b:List Bool)(x:List Int):Nat->Int×Int
 | 0=>(0,-1)
 | j+1=>if gt b (gt x (j:Int))=aE/\(gt v (gt x (j:Int))).1=1 then((lY v b x j).1+1,max (lY v b x j).2 (gt v (gt x (j:Int))).2)else lY v b x j
@[simp] theorem azU(v:List gg)(b:List Bool)(x:List Int):lY v b x 0=(0,-1):=rfl
theorem aoB{v:List gg}{b:List Bool}{x:List Int}{i:Int}(i0:0<=i):lY v b x (i+1).n=if gt b (gt x i)=aE/\(gt v (gt x i)).1=1 then((lY v b x i.n).1+1,max (lY v b x i.n).2 (gt v (gt x i)).2)else lY v b x i.n:=by have h:(i+1).n=i.n+1:=U;have a:((i.n:Nat):Int)=i:=U;rw[h,lY,a]
def Cg(v:List gg)(b:List Bool)(x:List Int)(n:Int):Prop:=∃k∈x,gt b k=aE/\gt v k=(3,n-1)
noncomputable def pN(g:gq)(p:Pos)(v:List gg)(b:List Bool)(x:List Int)(n:Int):gg×Bool:=
 if n=0 then(((stat g p).1,0),(stat g p).2)else
 if Cg v b x n then((1,n),bs)else((3,n),decide (0<x.l/\(lY v b x x.l).1=x.l/\(lY v b x x.l).2=n-1))
theorem PC(v:List gg)(b:List Bool)(x:List Int):∀k:Nat,0<=(lY v b x k).1/\(lY v b x k).1<=k
 | 0=>fZ
 | k+1=>by
  have:=PC v b x k;unfold lY;split
  .dsimp only;omega
  .omega
end Go.Proofs.YtmehofoficaelaaGreatDoor
namespace Go.Proofs.YtmehofoficaelaaGreatDoor
open Go Go.AL Classical
set_option maxRecDepth 10000
set_option maxHeartbeats 8000000
structure sq(g:gq)(m:List Int):Prop where
 len:m.l=g.kinds.l
 num:∀a∈m,1<=a/\a<=6
def lvC(m:List Int)(x:Int):Int:=if 0<=gN x then gt m (gN x)else 0
def SD(m cs:List Int):Nat->Int
 | 0=>0
 | i+1=>SD m cs i+lvC m (gt cs (i:Int))
def SE(m a b:List Int):Nat->Int
 | 0=>0
 | i+1=>SE m a b i+gt m (i:Int)*(gt a (i:Int)+gt b (i:Int))
def amJ(r:Int):Int:=if r=0 then 0 else if r=3 then 2 else 1
def Il(m:List Int)(p:Pos):Int:=SD m p.cs p.cs.l+SE m p.h0 p.h1 m.l+amJ p.gO
@[simp] theorem avX(m cs:List Int):SD m cs 0=0:=rfl
@[simp] theorem avY(m a b:List Int):SE m a b 0=0:=rfl
section
variable{g:gq}{m:List Int}{p:Pos}
end
end Go.Proofs.YtmehofoficaelaaGreatDoor
namespace Go.AL
open Go
section
variable{T:iF}{live:List Nat}{a:IR}{s:St}{K:jb}{α:Type}
theorem gx.kg(ms:List Nat)(rd:Bool)(b:α)(E:α->Env)(c:α->gd)(P:α->Prop)(d:α->Nat)
  (h0:P b) (l:forget ((E b).map (·.1)) s.env=E b) (j:s.H=c b) (i:s.marks=ms) (g:s.iG=rd) (f:(((E b).map (·.1)).all λk=>live.contains k)=bs)
  (h:∀x,P x->XC T a { env:=E x,H:=c x,marks:=ms,iG:=rd } (wj s.H.l live ((E b).map (·.1)) (LJ E c ms rd (λe=>d e<d x/\P e) .mk) K)):gx T live a s K .mk:=
 gx.j b E c P d h0 l j f (by rw[i,g];exact h)
end
def M0(H:gd):Option Ob->Option D
 | some (.jo (.gH m) since seen)=>(lW H m).bind λp=>seen.getLast?.bind λi=>p.2[i]?.bind λe=>if p.2.l=since then some (.tup [sM e.1,e.2])else none
 | _=>none
theorem adv(H:gd)(x:Option Ob):(match x with
  | some (.jo (.gH m) since seen)=>(match lW H m,seen.getLast? with
   | some (_,es),some i=>(match es[i]? with
    | some (k,d)=>if es.l=since then some (.tup [sM k,d])else none
    | none=>none)
   | _,_=>none)
  | _=>none)=M0 H x:=by
 unfold M0;split
 .rename_i m since seen
  cases a:lW H m with
  | none=>simp
  | some p=>
   cases hs:seen.getLast? with
   | none=>simp
   | some i=>
    simp only[Option.bind_some];cases p.2[i]? <;> rfl
 .rfl
@[simp] theorem atn(v:Nat)(H:gd):M1 (.ptr v 0 0) H=M0 H H[v]? := adv H H[v]?
@[simp] theorem atm(H:gd)(m since:Nat)(seen:List Nat):M0 H (some (.jo (.gH m) since seen))=(lW H m).bind λp=>seen.getLast?.bind λi=>p.2[i]?.bind λe=>if p.2.l=since then some (.tup [sM e.1,e.2])else none:=rfl
@[simp] theorem axF(m:Nat)(H:gd)(a:Nat):IN (.gH m) H a=(lW H m).bind λp=>some (.ptr a 0 0,.new (.jo (.gH m) p.2.l [])):=by simp only[IN];cases lW H m<;>rfl
def uC.at{v m since:Nat}{seen:List Nat}{kk:KK}{es:List (Value×D)}{dst:Option Nat}{s:St}{K:St->Prop}(a:s.H[v]? = some (.jo (.gH m) since seen))(b:s.H[m]? = some (.map kk es))(hs:es.l=since)
  (h0:(∀i,i<es.l->i∈seen)->K { s with env:=put s.env dst (.tup [.b aE]) })
  (h1:∀i k d,es[i]? = some (k,d)->i ∉ seen->K { s with env:=put s.env dst (.tup [.b bs,sM k,d]),H:=s.H.set v (.jo (.gH m) since (seen ++ [i])) }):uC (.ptr v 0 0) dst s K .mk:=
 ⟨v,m,since,seen,kk,es,rfl,a,b,hs,h0,h1⟩
@[simp] theorem arX(t:TypeId)(v k o n:Nat):sY t (.ptr v k o) n=some (.ptr n 0 0,.new (.row t 0 [.ptr v k o])):=rfl
@[simp] theorem awR(n:Nat)(m:D)(since:Nat)(seen:List Nat):o9 n (.jo m since seen) = []:=rfl
@[simp] theorem ayk(ρ:Nat->Option Nat)(H:gd)(m:D)(since:Nat)(seen:List Nat):u7 ρ H (some (.jo m since seen)) = .jo (gw ρ H 40 m) since seen:=rfl
end Go.AL
namespace Go.Proofs.YtmehofoficaelaaGreatDoor
open Go Go.AL Classical
set_option maxRecDepth 10000
set_option maxHeartbeats 8000000
def afv{α:Type}[Inhabited α]{l a:List α}(h:l.l=a.l)(k:∀j:Int,0<=j->j<l.l->gt l j=gt a j):l=a:=
 bg h λi h1 b=>by have:=k i U U;rwa [Bv h1,Bv b]at this
def wv{α:Type}(v:List α)(a:Int->α):List Int->List α
 | []=>v
 | i::r=>wv (pt v i (a i)) a r
@[simp] theorem axC{α:Type}(a:Int->α)(v:List α):wv v a []=v:=rfl
theorem IJ{α:Type}[Inhabited α](a:Int->α):∀(r:List Int) (v:List α),(∀i∈r,0<=i/\i<v.l)->(wv v a r).l=v.l
 | [],v,_=>rfl
 | i::r,v,h=>by have h1:=h i fZ;have b:=iW (v:=a i) h1.1 h1.2;rw[wv,IJ a r _ λj c=>by rw[b];exact h j (by simp[c]),b]
theorem GX{α:Type}[Inhabited α](a:Int->α):∀(r:List Int) (v:List α),(∀i∈r,0<=i/\i<v.l)->∀j:Int,0<=j->j<v.l->gt (wv v a r) j=if j∈r then a j else gt v j
 | [],v,_,j,_,_=>by simp[wv]
 | i::r,v,h,j,j0,j1=>by
  have h1:=h i fZ;have d:=iW (v:=a i) h1.1 h1.2;rw[wv,GX a r _ (λk c=>by rw[d];exact h k (by simp[c])) j j0 U,py h1.1 h1.2 j0]
  by_cases b:j∈r
  .simp[b]
  .by_cases e:j=i
   .subst e;simp[b]
   .simp[b,e]
def esD(a:Int->gg)(ds:List Int):List (Value×D):=ds.map λi=>(.int .i64 i,.agg [.i (a i).1,.i (a i).2])
@[simp] theorem atr(a:Int->gg):esD a [] = []:=rfl
section
variable(g:gq)(l:List Pos)(nx:List (List Int))(part:List Int)
noncomputable def MY(v:List gg)(b:List Bool)(n:Int)(i:Int):gg:=(pN g (gt l i) v b (gt nx i) n).1
noncomputable def S6(v:List gg)(b:List Bool)(n:Int)(i:Int):Bool:=(pN g (gt l i) v b (gt nx i) n).2&&gt b i
noncomputable def tB(v:List gg)(b:List Bool)(n:Int):List Int:=part.filter (S6 g l nx v b n)
noncomputable def rV(v:List gg)(b:List Bool)(n:Int):List gg:=wv v (MY g l nx v b n) (tB g l nx part v b n)
noncomputable def rB(v:List gg)(b:List Bool)(n:Int):List Bool:=wv b (λ_=>aE) (tB g l nx part v b n)
def w6(v:List gg)(b:List Bool):List gg×List Bool:=(wv v (λ_=>(2,0)) (part.filter λi=>gt b i),wv b (λ_=>aE) (part.filter λi=>gt b i))
@[simp] theorem atC(v:List gg)(b:List Bool):w6 [] v b=(v,b):=rfl
end
def gk(ds:List Int)(a:List Nat):List Int:=a.map λj:Nat=>gt ds (j:Int)
@[simp] theorem at5(ds:List Int):gk ds [] = []:=rfl
theorem Gj{l:List gg}{n:Int}(a b:Int):(cl fS l).take (n.n*2) ++ .i a :: .i b::(cl fS l).drop (n.n*2+2)=cl fS (pt l n (a,b)):=by rw[(U:n.n*2+2=(n.n+1)*2),uH,xX];unfold pt;rw[<-Ba,nb,DJ];rfl
def adh{g:gq}{l:List Pos}{nx:List (List Int)}{part:List Int}{v:List gg}{b:List Bool}{n i:Int}(h:i∈tB g l nx part v b n):i∈part:=(aS.1 h).1
def Pq(w:Bool)(g:gq)(l:List Pos)(nx:List (List Int)):List D:=[.gf (bif w then 3 else 4) (bif w then 0 else 1) 2 0 l.l,.gf (bif w then 4 else 3) 0 1 0 l.l,.i g.size,.sl 1 (g.next.map fI),dI g.jD,.sl 3 (g.kinds.map Kind.cells),.i g.gO,.b g.oQ,dN 4 Clause.cells g.clauses,.i g.blocked,.i g.vo,gP l,.sl 1 (nx.map fN)]
def tp(w:Bool):D:=.ptr (bif w then 2 else 1) 0 0
def H5(w:Bool)(z:List gg)(g:gq)(l:List Pos)(nx:List (List Int))(m:List Int)(v:List gg)(b:List Bool):gd:=
 bif w then [.row 43 0 g.cells,.row 56 0 [dI m],.row 132 0 (Pq w g l nx),.row 86 0 (cl fS v),.row 4 0 (cl fB b)]else [.row 43 0 g.cells,.row 132 0 (Pq w g l nx),.row 86 0 (cl fS z),.row 4 0 (cl fB b),.row 86 1 (cl fS v)]
def HF(w:Bool)(z:List gg)(g:gq)(l:List Pos)(nx:List (List Int))(m:List Int)(part:List Int)(n t:Int)(v:List gg)(b:List Bool)(st:qz):gd:=
 H5 w z g l nx m v b ++ [.row 125 0 [tp w],.row 37 0 [dI part],.row 3 0 [.i n],.row 3 0 [.i t],.row 125 0 [tp w],.jH,.iu 3456 [(3,.ptr 5 0 0),(4,.ptr 6 0 0),(5,.ptr 7 0 0),(9,.ptr 8 0 0)] st]
structure xK(g:gq)(l:List Pos)(nx:List (List Int))(part:List Int)(bu:Int):Prop where
 gm:gR g
 ps:∀p∈l,iC g p
 len:l.l<=4000
 nxl:nx.l=l.l
 ZU:∀i:Int,0<=i->i<l.l->(∀k∈gt nx i,0<=k/\k<l.l)/\(gt nx i).l<=4000000000
 prt:∀i∈part,0<=i/\i<l.l
 nd:part.Nodup
 pl:part.l<=4000
 bu:1<=bu/\bu<=9223372036854775807
end Go.Proofs.YtmehofoficaelaaGreatDoor
namespace Go.AL
open Go
def Qi:Nat->List (Int×List Int)->List (Value×D)
 | _,[]=>[]
 | k,e::r=>(.int .i64 e.1,.gf k (e.2.l-1) 1 0 e.2.l)::Qi (k+1) r
def rwF(ls:List (Int×List Int)):gd:=ls.map λe=>.row 3 (e.2.l-1) (cl f1 e.2)
def LH(m:List Int)(ls:List (Int×List Int)):gd:=.row 56 0 [dI m] :: .map (.int .i64) (Qi 2 ls)::rwF ls
end Go.AL
namespace Go.Proofs.YtmehofoficaelaaGreatDoor
open Go Go.AL Classical
noncomputable def afc(m:List Int)(l:List Pos)(n:Int)(k:Nat):List Int:=(upto k).filter λi=>decide (Il m (gt l i)=n)
structure GI(m:List Int)(l:List Pos)(i:Int)(ls:List (Int×List Int)):Prop where
 nd:(ls.map (·.1)).Nodup
 mem:∀n,n∈ls.map (·.1)↔∃j:Int,0<=j/\j<i/\Il m (gt l j)=n
 prt:∀e∈ls,e.2=afc m l e.1 i.n
section
variable{m:List Int}{l:List Pos}{i:Int}{ls:List (Int×List Int)}
end
section
variable{g:gq}{l:List Pos}{nx:List (List Int)}{part:List Int}
end
structure Chn(L:Nat)(v:List gg)(b:List Bool):Prop where
 vl:v.l=L
 bl:b.l=L
 n:∀i:Int,0<=i->i<L->gt b i=aE->(gt v i).1≠2->0<=(gt v i).2/\(0<(gt v i).2->∃j:Int,0<=j/\j<L/\gt b j=aE/\(gt v j).1≠2/\(gt v j).2=(gt v i).2-1)
theorem T1(v:List gg)(b:List Bool)(x:List Int):∀k:Nat,k<=x.l->(lY v b x k).2 = -1\/∃j∈x,gt b j=aE/\(gt v j).1=1/\(gt v j).2=(lY v b x k).2
 | 0,_=>.inl rfl
 | k+1,hk=>by
  have c:=T1 v b x k U;have d:gt x (k:Int)∈x:=gF U U;rw[lY];split
  .rename_i h;dsimp only;rcases Int.le_total (lY v b x k).2 (gt v (gt x (k:Int))).2 with a|a
   .rw[Int.max_eq_right a];exact .inr ⟨_,d,h.1,h.2,rfl⟩
   .rw[Int.max_eq_left a];exact c
  .exact c
section
variable{g:gq}{l:List Pos}{nx:List (List Int)}{part:List Int}{bu:Int}
theorem MR(o:xK g l nx part bu){v:List gg}{b:List Bool}(a:b.l=l.l){n:Int}:∀i∈tB g l nx part v b n,0<=i/\i<b.l:=λi hi=>by rw[a];exact o.prt i (adh hi)
theorem amU(o:xK g l nx part bu){v:List gg}{b:List Bool}(a:v.l=l.l)(c:b.l=l.l){n:Int}:(rV g l nx part v b n).l=l.l:=by unfold rV;rw[IJ _ _ _ (by rw[a,<-c];exact MR o c),a]
theorem amT(o:xK g l nx part bu){v:List gg}{b:List Bool}(a:b.l=l.l){n:Int}:(rB g l nx part v b n).l=l.l:=by unfold rB;rw[IJ _ _ _ (MR o a),a]
theorem W8(o:xK g l nx part bu){v:List gg}{b:List Bool}(c:v.l=l.l)(a:b.l=l.l){n j:Int}(j0:0<=j)(j1:j<l.l):gt (rV g l nx part v b n) j=if j∈tB g l nx part v b n then MY g l nx v b n j else gt v j:=
 GX _ _ _ (by rw[c,<-a];exact MR o a) j j0 U
theorem QK(o:xK g l nx part bu){v:List gg}{b:List Bool}(a:b.l=l.l){n j:Int}(j0:0<=j)(j1:j<l.l):gt (rB g l nx part v b n) j=if j∈tB g l nx part v b n then aE else gt b j:=
 GX _ _ _ (MR o a) j j0 U
theorem WB(o:xK g l nx part bu){v:List gg}{b:List Bool}(a:v.l=l.l)(c:b.l=l.l):((w6 part v b).1.l=l.l/\(w6 part v b).2.l=l.l) /\
  ∀j:Int,0<=j->j<l.l->gt (w6 part v b).1 j=(if j∈part/\gt b j=bs then(2,0)else gt v j)/\gt (w6 part v b).2 j=(if j∈part then aE else gt b j):=by
 have hi:∀i∈part.filter (λi=>gt b i),0<=i/\i<l.l:=λi hi=>o.prt i (aS.1 hi).1;unfold w6;dsimp only;refine⟨⟨by rw[IJ _ _ _ (by rw[a];exact hi),a],by rw[IJ _ _ _ (by rw[c];exact hi),c]⟩,λj j0 j1=>?_⟩;rw[GX _ _ _ (by rw[a];exact hi) j j0 U,GX _ _ _ (by rw[c];exact hi) j j0 U];simp only[aS];refine⟨trivial,?_⟩
 by_cases h1:j∈part
 .by_cases d:gt b j=bs
  .simp[h1,d]
  .simp[h1,d]
 .simp[h1]
end
section
variable{g:gq}{l:List Pos}{nx:List (List Int)}
end
noncomputable def OE(m:List Int)(l:List Pos)(last:Int):Nat->Int
 | 0 => -1
 | i+1=>if last<Il m (gt l (i:Int))/\(OE m l last i<0\/Il m (gt l (i:Int))<OE m l last i)then Il m (gt l (i:Int))else OE m l last i
@[simp] theorem awg(m:List Int)(l:List Pos)(last:Int):OE m l last 0 = -1:=rfl
set_option maxRecDepth 10000
set_option maxHeartbeats 8000000
def ab9(b:Int)(l:List gg):Bool:=l.any λs=>s.1 == 8&&s.2 == b
def bec(g:gq)(a b:Int):Bool:=(gt g.kinds a).jA.any (ab9 b)
structure aoU(g:gq)(m:List Int):Prop where
 ok:sq g m
 le:∀a b:Int,0<=a->a<g.kinds.l->0<=b->b<g.kinds.l->bec g a b=bs->gt m b<=gt m a
def W6{α:Type}[Inhabited α]{l a:List α}{n:Int}(h0:0<=n)(h:n<l.l):gt (l++a) n=gt l n:=by unfold gt;rw[bb,bb,ah U]
end Go.Proofs.YtmehofoficaelaaGreatDoor
namespace Go.Proofs.YtmehofoficaelaaGreatDoor
open Go Go.AL Classical
section
variable{g:gq}{l:List Pos}{nx:List (List Int)}{part:List Int}{bu:Int}
structure Agr(L:Nat)(S:Int->Prop)(v:List gg)(b:List Bool)(v':List gg)(b':List Bool):Prop where
 vl:v.l=L
 bl:b.l=L
 vl':v'.l=L
 bl':b'.l=L
 eb:∀k:Int,0<=k->k<L->S k->gt b k=gt b' k
 ev:∀k:Int,0<=k->k<L->S k->gt b k=aE->gt v k=gt v' k
structure aoV(l:List Pos)(nx:List (List Int))(part:List Int)(S:Int->Prop):Prop where
 own:∀i∈part,S i
 next:∀i∈part,∀k∈gt nx i,S k
def rep(n:Nat):List Bool:=List.replicate n aE
end
section
variable{g:gq}{l:List Pos}{m:List Int}
end
structure mc where
 ov:Int->Bool
 rs:Int->Int
 nx:List (List Int)
def na(A:mc)(v:List gg)(i:Int):Prop:=
 (A.ov i=bs/\gt v i=(A.rs i,0))\/(A.ov i=aE/\(
  (∃n,1<=n/\gt v i=(1,n)/\(∃k∈gt A.nx i,gt v k=(3,n-1))/\∀k∈gt A.nx i,(gt v k).1=3->n-1<=(gt v k).2) \/
  (∃n,1<=n/\gt v i=(3,n)/\(∀k∈gt A.nx i,(gt v k).1=1/\(gt v k).2<=n-1)/\∃k∈gt A.nx i,(gt v k).2=n-1) \/
  (gt v i=(2,0)/\(∀k∈gt A.nx i,(gt v k).1≠3)/\¬(gt A.nx i≠[]/\∀k∈gt A.nx i,(gt v k).1=1))))
def na.n0{A:mc}{v:List gg}{i:Int}(h:na A v i):0<=(gt v i).2:=by rcases h with⟨_,e⟩|⟨_,⟨n,h,e,_⟩|⟨n,h,e,_⟩|⟨e,_⟩⟩<;>rw[e]<;>simp<;>omega
def na.congr{A:mc}{v v':List gg}{i:Int}(h:na A v i)(hi:gt v' i=gt v i)(b:∀k∈gt A.nx i,gt v' k=gt v k):na A v' i:=by
 rcases h with⟨f,c2⟩|⟨f,⟨q,q1,c2,⟨k,c,e⟩,d⟩|⟨q,q1,c2,e,k,c,d⟩|⟨c2,e,d⟩⟩
 .exact .inl ⟨f,by rw[hi];exact c2⟩
 .exact .inr ⟨f,.inl ⟨q,q1,by rw[hi];exact c2,⟨k,c,by rw[b k c];exact e⟩,λp a=>by rw[b p a];exact d p a⟩⟩
 .exact .inr ⟨f,.inr (.inl ⟨q,q1,by rw[hi];exact c2,λp a=>by rw[b p a];exact e p a,k,c,by rw[b k c];exact d⟩)⟩
 .exact .inr ⟨f,.inr (.inr ⟨by rw[hi];exact c2,λp a=>by rw[b p a];exact e p a,λ⟨j,g⟩=>d ⟨j,λp a=>by rw[<-b p a];exact g p a⟩⟩)⟩
section
variable{A:mc}{S:Int->Prop}{v v':List gg}
end
noncomputable def jv(g:gq)(l:List Pos)(nx:List (List Int)):mc:=⟨λi=>(stat g (gt l i)).2,λi=>(stat g (gt l i)).1,nx⟩
theorem abz{v:List gg}{b:List Bool}{x:List Int}:∀n:Nat,n<=x.l->(∀j:Nat,j<n->gt b (gt x (j:Int))=aE/\(gt v (gt x (j:Int))).1=1)->(lY v b x n).1=n
 | 0,_,_=>rfl
 | n+1,hn,h=>by rw[lY,if_pos (h n U)];have:=abz (v:=v) (b:=b) (x:=x) n U λj a=>h j U;dsimp only;omega
theorem T0{v:List gg}{b:List Bool}{x:List Int}:∀n:Nat,(lY v b x n).1=n->∀j:Nat,j<n->gt b (gt x (j:Int))=aE/\(gt v (gt x (j:Int))).1=1
 | 0,_,j,hj=>U
 | n+1,h,j,hj=>by
  have a:=PC v b x n;rw[lY]at h;split at h
  .rename_i c;dsimp only at h
   by_cases e:j=n
   .grind
   .exact T0 (v:=v) (b:=b) (x:=x) n U j U
  .omega
theorem PD{v:List gg}{b:List Bool}{x:List Int}:∀n:Nat,(lY v b x n).1=n->∀j:Nat,j<n->(gt v (gt x (j:Int))).2<=(lY v b x n).2
 | 0,_,j,hj=>U
 | n+1,h,j,hj=>by
  have c:=PC v b x n;rw[lY]at h ⊢;split at h
  .rename_i a;rw[if_pos a];dsimp only at h ⊢
   by_cases e:j=n
   .grind
   .have:=PD (v:=v) (b:=b) (x:=x) n U j U;omega
  .omega
def SV{x:List Int}{k:Int}:k∈x↔∃j:Nat,j<x.l/\gt x (j:Int)=k:=by
 rw[yM];constructor
 .rintro⟨n,n0,n1,e⟩;exact⟨n.n,U,by rw[(U:((n.n:Nat):Int)=n)];exact e⟩
 .grind
section
variable{g:gq}{l:List Pos}{nx:List (List Int)}{part:List Int}{bu:Int}
structure FI(g:gq)(l:List Pos)(nx:List (List Int))(part:List Int)(v0:List gg)(n:Int)(v:List gg)(b:List Bool):Prop where
 vl:v.l=l.l
 bl:b.l=l.l
 out:∀k:Int,0<=k->k<l.l->k ∉ part->gt b k=aE/\gt v k=gt v0 k
 dec:∀i∈part,gt b i=aE->(0<=(gt v i).2/\(gt v i).2<n)/\(((stat g (gt l i)).2=bs/\gt v i=((stat g (gt l i)).1,0))\/((stat g (gt l i)).2=aE/\(
  (∃m,1<=m/\gt v i=(1,m)/\(∃k∈gt nx i,gt b k=aE/\gt v k=(3,m-1))/\∀k∈gt nx i,gt b k=aE->(gt v k).1=3->m-1<=(gt v k).2) \/
  (∃m,1<=m/\gt v i=(3,m)/\(∀k∈gt nx i,gt b k=aE/\(gt v k).1=1/\(gt v k).2<=m-1)/\∃k∈gt nx i,(gt v k).2=m-1))))
 Cq:∀i∈part,gt b i=bs->0<n->(stat g (gt l i)).2=aE/\(∀k∈gt nx i,gt b k=aE->(gt v k).1=3->n-1<=(gt v k).2) /\
  (gt nx i≠[]->(∀k∈gt nx i,gt b k=aE/\(gt v k).1=1)->∃k∈gt nx i,n-1<=(gt v k).2)
theorem FI.step(o:xK g l nx part bu){v0:List gg}(h0:∀k:Int,0<=k->k<l.l->0<=(gt v0 k).2){n:Int}(n0:0<=n){v:List gg}{b:List Bool}(h:FI g l nx part v0 n v b):FI g l nx part v0 (n+1) (rV g l nx part v b n) (rB g l nx part v b n):=by
 have W:=λ{k:Int} (k0:0<=k) (k1:k<l.l)=>W8 o h.vl h.bl (n:=n) k0 k1;have X:=λ{k:Int} (k0:0<=k) (k1:k<l.l)=>QK o (v:=v) h.bl (n:=n) k0 k1;have w:∀i∈part,∀k∈gt nx i,0<=k/\k<l.l:=λi hi k d=>(o.ZU i (o.prt i hi).1 (o.prt i hi).2).1 k d
 have V:∀k,k∈tB g l nx part v b n↔k∈part/\(pN g (gt l k) v b (gt nx k) n).2=bs/\gt b k=true:=λk=>by unfold tB S6;rw[aS,ai]
 have mK:∀k,k∈tB g l nx part v b n->(MY g l nx v b n k).2=n:=λk d=>by
  unfold MY pN;split
  .grind
  .split<;>rfl
 have s:∀k:Int,0<=k->k<l.l->gt b k=aE->gt (rB g l nx part v b n) k=aE/\gt (rV g l nx part v b n) k=gt v k:=λk k0 k1 e=>jS;have O:∀k:Int,0<=k->k<l.l->gt (rB g l nx part v b n) k=aE->(gt b k=aE/\gt (rV g l nx part v b n) k=gt v k)\/(k∈tB g l nx part v b n/\(gt (rV g l nx part v b n) k).2=n):=λk k0 k1 e=>jS
 have P:∀k:Int,0<=k->k<l.l->gt b k=aE->0<=(gt v k).2:=λk k0 k1 e=>by
  by_cases H:k∈part
  .exact(h.dec k H e).1.1
  .rw[(h.out k k0 k1 H).2];exact h0 k k0 k1
 refine⟨amU o h.vl h.bl,amT o h.bl,λk k0 k1 d=>?_,λi hi e=>?_,λi hi e _=>?_⟩
 .obtain⟨a,c⟩:=h.out k k0 k1 d;obtain⟨a',c'⟩:=s k k0 k1 a;exact⟨a',c'.trans c⟩
 .obtain⟨i0,y⟩:=o.prt i hi;rcases O i i0 y e with⟨E,Y⟩|⟨C,Z⟩
  .obtain⟨T,z⟩:=h.dec i hi E;rw[Y];refine⟨⟨T.1,U⟩,?_⟩;rcases z with⟨L,c2⟩|⟨L,⟨m,m1,c2,⟨k,d,K,J⟩,c5⟩|⟨m,m1,c2,K,k,d,J⟩⟩
   .grind
   .grind
   .refine .inr ⟨L,.inr ⟨m,m1,c2,λq t=>?_,k,d,?_⟩⟩
    .grind
    .grind
  .obtain⟨_,r,D⟩:=(V i).1 C;refine⟨U,?_⟩;have S:gt (rV g l nx part v b n) i=(pN g (gt l i) v b (gt nx i) n).1:=by rw[W i0 y,if_pos C];rfl
   rw[S]
   by_cases f:n=0
   .subst f;unfold pN at r ⊢;rw[if_pos rfl]at r ⊢;exact .inl ⟨r,rfl⟩
   .obtain⟨Q,p2,p3⟩:=h.Cq i hi D U;refine .inr ⟨Q,?_⟩;unfold pN at r ⊢;rw[if_neg f]at r ⊢
    by_cases hl:Cg v b (gt nx i) n
    .rw[if_pos hl];obtain⟨k,d,K,J⟩:=hl;refine .inl ⟨n,U,rfl,⟨k,d,?_⟩,λq t N B=>?_⟩
     .grind
     .grind
    .rw[if_neg hl]at r ⊢;simp only[decide_eq_true_eq]at r;obtain⟨w0,w1,w2⟩:=r;have z:=T0 _ w1;have hg:=PD _ w1;refine .inr ⟨n,U,rfl,λq t=>?_,?_⟩
     .obtain⟨j,u,rfl⟩:=SV.1 t;have I:=s _ (w i hi _ t).1 (w i hi _ t).2 (z j u).1;have:=hg j u;rw[I.2];exact⟨I.1,(z j u).2,U⟩
     .rcases T1 v b (gt nx i) (gt nx i).l (Nat.le_refl _)with E|⟨q,t,q1,q2,q3⟩
      .omega
      .grind
 .obtain⟨i0,y⟩:=o.prt i hi;have R:i ∉ tB g l nx part v b n:=λC=>jS;rw[X i0 y,if_neg R]at e;have p:(pN g (gt l i) v b (gt nx i) n).2=false:=jS
  have NO:(stat g (gt l i)).2=false:=by
   by_cases f:n=0
   .unfold pN at p;rw[if_pos f]at p;exact p
   .exact(h.Cq i hi e U).1
  have F:n≠0->¬Cg v b (gt nx i) n:=λf hl=>by unfold pN at p;rw[if_neg f,if_pos hl]at p;cases p
  refine⟨NO,λk d N B=>?_,λG ha=>?_⟩
  .rcases O k (w i hi k d).1 (w i hi k d).2 N with⟨M,b2⟩|⟨_,b2⟩
   .rw[b2]at B ⊢
    by_cases f:n=0
    .grind
    .have h1:=(h.Cq i hi e U).2.1 k d M B;have r:(gt v k).2≠n-1:=λD=>F f ⟨k,d,M,dh B D⟩;omega
   .omega
  .by_cases hx:∃k∈gt nx i,n<=(gt (rV g l nx part v b n) k).2
   .simp_all
   .exfalso;have A:∀k∈gt nx i,gt b k=aE/\(gt v k).1=1/\(gt v k).2<n:=λk d=>jS;have ky:0<(gt nx i).l:=ay.2 G
    by_cases f:n=0
    .have d:=gF (l:=gt nx i) (n:=0) U U;have h1:=A _ d;have r:=P _ (w i hi _ d).1 (w i hi _ d).2 h1.1;omega
    .obtain⟨k,d,h1⟩:=(h.Cq i hi e U).2.2 G λk d=>⟨(A k d).1,(A k d).2.1⟩
     have w1:=abz (v:=v) (b:=b) (x:=gt nx i) _ (Nat.le_refl _) λj u=>by have:=A _ (SV.2 ⟨j,u,rfl⟩);exact⟨this.1,this.2.1⟩
     have w2:(lY v b (gt nx i) (gt nx i).l).2=n-1:=by
      obtain⟨j,u,rfl⟩:=SV.1 d;have g1:=PD _ w1 j u;rcases T1 v b (gt nx i) (gt nx i).l (Nat.le_refl _)with E|⟨q,t,_,_,q3⟩
      .grind
      .grind
     unfold pN at p;rw[if_neg f,if_neg (F f)]at p;simp only[decide_eq_false_iff_not]at p;exact p ⟨U,w1,w2⟩
end
section
variable{g:gq}{l:List Pos}{nx:List (List Int)}{part:List Int}{bu:Int}
theorem ae9(o:xK g l nx part bu){v0 V:List gg}{B:List Bool}{n:Int}(n0:0<n)(p:FI g l nx part v0 n V B)
  (x:∀k:Int,0<=k->k<l.l->gt B k=aE->(gt V k).1≠2->(gt V k).2<n-1):∀i∈part,na (jv g l nx) (w6 part V B).1 i:=by
 obtain⟨_,f2⟩:=WB o p.vl p.bl;have d:∀i∈part,∀k∈gt nx i,0<=k/\k<l.l:=λi hi k b=>(o.ZU i (o.prt i hi).1 (o.prt i hi).2).1 k b
 have b:∀k:Int,0<=k->k<l.l->gt B k=aE->gt (w6 part V B).1 k=gt V k:=λk k0 k1 e=>by rw[(f2 k k0 k1).1,if_neg λh=>by rw[e]at h;exact absurd h.2 fZ]
 have hs:∀k:Int,0<=k->k<l.l->(gt (w6 part V B).1 k).1≠2->gt B k=false:=λk k0 k1 e=>by
  by_cases y:k∈part
  .by_cases A:gt B k=bs
   .rw[(f2 k k0 k1).1,if_pos ⟨y,A⟩]at e;exact absurd rfl e
   .simpa using A
  .exact(p.out k k0 k1 y).1
 intro i hi;obtain⟨i0,r⟩:=o.prt i hi
 by_cases e:gt B i=bs
 .obtain⟨E,D,C⟩:=p.Cq i hi e n0;refine .inr ⟨E,.inr (.inr ⟨by rw[(f2 i i0 r).1,if_pos ⟨hi,e⟩],λk a f=>?_,λ⟨F,z⟩=>?_⟩)⟩
  .obtain⟨k0,k1⟩:=d i hi k a;have c:=hs k k0 k1 U;rw[b k k0 k1 c]at f;have h1:=D k a c f;have G:=x k k0 k1 c U;omega
  .obtain⟨k,a,h1⟩:=C F λk a=>by obtain⟨k0,k1⟩:=d i hi k a;have f:=z k a;have c:=hs k k0 k1 U;rw[b k k0 k1 c]at f;exact⟨c,f⟩
   obtain⟨k0,k1⟩:=d i hi k a;have f:=z k a;have c:=hs k k0 k1 U;rw[b k k0 k1 c]at f;have G:=x k k0 k1 c U;omega
 .have s:gt B i=false:=by simpa using e
  rcases(p.dec i hi s).2 with⟨u,c2⟩|⟨u,⟨m,w,c2,⟨k,a,t,v⟩,H⟩|⟨m,w,c2,t,k,a,v⟩⟩
  .exact .inl ⟨u,by rw[b i i0 r s];exact c2⟩
  .refine .inr ⟨u,.inl ⟨m,w,by rw[b i i0 r s];exact c2,⟨k,a,by rw[b k (d i hi k a).1 (d i hi k a).2 t];exact v⟩,λq j f=>?_⟩⟩;obtain⟨q0,q1⟩:=d i hi q j;have c:=hs q q0 q1 U;rw[b q q0 q1 c]at f ⊢;exact H q j c f
  .refine .inr ⟨u,.inr (.inl ⟨m,w,by rw[b i i0 r s];exact c2,λq j=>?_,k,a,?_⟩)⟩
   .obtain⟨d1,d2⟩:=t q j;rw[b q (d i hi q j).1 (d i hi q j).2 d1];exact d2
   .rw[b k (d i hi k a).1 (d i hi k a).2 (t k a).1];exact v
end
section
variable{g:gq}{l:List Pos}{m:List Int}
end
set_option maxRecDepth 10000
set_option maxHeartbeats 4000000
def U5{n:Nat}{N:Int->Int}{K:Int->Prop}(c:∀i,K i->(0<=i/\i<n)/\0<=N i)(h:∀i,K i->N i=0\/∃k,K k/\N k=N i-1):∀i,K i->N i<n:=by
 have b:∀(a:Nat) (i:Int),K i->N i=a->∀m:Nat,m<=a->∃q,K q/\N q=m:=by
  intro a
  induction a with
  | zero=>exactλi hi e m j=>⟨i,hi,U⟩
  | succ a d=>
   intro i hi e m j
   by_cases em:m=a+1
   .exact⟨i,hi,U⟩
   rcases h i hi with h1|⟨k,l,h1⟩
   .omega
   .exact d k l U m U
 intro i hi;have h0:=c i hi
 have:=IA (fh (n:=(N i).n+1)) (m:=(upto n).map λk=>(N k).n) λx f=>by obtain⟨q,g,e⟩:=b (N i).n i hi U x (by have:=bp.1 f;omega);exact az.2 ⟨q,jJ.2 (c q g).1,by rw[e];rfl⟩
 simp[upto]at this;omega
def ahm{A:mc}{n:Nat}{v:List gg}(hS:∀i:Int,0<=i->i<n->∀k∈gt A.nx i,0<=k/\k<n)(h:∀i:Int,0<=i->i<n->na A v i){i:Int}(i0:0<=i)(e:i<n):0<=(gt v i).2/\(gt v i).2<n:=by
 refine⟨(h i i0 e).n0,U5 (N:=λi=>(gt v i).2) (K:=λi=>0<=i/\i<n) (λi hi=>⟨hi,(h i hi.1 hi.2).n0⟩) (λi hi=>?_) i ⟨i0,e⟩⟩;rcases h i hi.1 hi.2 with⟨_,b⟩|⟨_,⟨a,f,b,⟨k,c,d⟩,_⟩|⟨a,f,b,_,k,c,d⟩|⟨b,_⟩⟩
 .left;rw[b]
 .right;exact⟨k,hS i hi.1 hi.2 k c,by rw[b,d]⟩
 .right;exact⟨k,hS i hi.1 hi.2 k c,by rw[b,d]⟩
 .left;rw[b]
def kV(v:List Kn):List gg:=v.map λx=>(x.1,x.2.1)
def kB(v:List Kn):List Bool:=v.map λx => !x.2.2
def Bu{v:List Kn}{k:Int}(k0:0<=k)(k1:k<v.l):gt (kV v) k=((gt v k).1,(gt v k).2.1):=by rw[iX k0 (by unfold kV;rw[b4];exact k1),iX k0 k1];unfold kV;rw[cc]
def w8{v:List Kn}{k:Int}(k0:0<=k)(k1:k<v.l):gt (kB v) k = !(gt v k).2.2:=by rw[iX k0 (by unfold kB;rw[b4];exact k1),iX k0 k1];unfold kB;rw[cc]
@[local simp] theorem av6:max (0:Int) (-1)=0:=jh
noncomputable def pL(v:List Kn)(x:List Int)(n:Int):Kn:=if Cg (kV v) (kB v) x n then(1,n,bs)else if (lY (kV v) (kB v) x x.l).1=x.l/\(lY (kV v) (kB v) x x.l).2=n-1 then(3,n,bs)else(0,0,aE)
def Wx(v:List Kn)(l:List Int)(n:Int)(C:1<=n/\n<=4000)(h0:0<l.l)(hl:l.l<2 ^ 40)(q:∀k∈l,0<=k/\k<v.l)(A:∀k∈l,(gt v k).2.2=bs->0<=(gt v k).2.1) :
  Wf T 129 [.sl 3 (v.map fK),dI l,.i n] [] (Is (.agg [.i (pL v l n).1,.i (pL v l n).2.1,.b (pL v l n).2.2])):=by
 refine Yg LV ?_;simp[LV];refine gx.e (0:Int) (λy=>[(0,.sl 3 (v.map fK)),(1,dI l),(2,.i n),(6,.ptr 0 0 0),(7,.i (lY (kV v) (kB v) l y.n).1),(8,.i (max 0 (lY (kV v) (kB v) l y.n).2)),(9,.i y)]) (λy=>[.row 245 0 [.i 0,.i 0,.b aE]]) (λy=>0<=y/\y<=l.l/\∀k∈l.take y.n,¬(gt (kB v) k=aE/\gt (kV v) k=(3,n-1))) (λy=>(l.l-y).n) ?_ ?_
 .simp
 rintro j ⟨j0,j1,j2⟩;dsimp only at j0 j1 j2 ⊢
 by_cases f:j<l.l
 .have a:=q _ (gF j0 f);have c:=aoB (v:=kV v) (b:=kB v) (x:=l) j0;have g:=Bu a.1 a.2;have i:=w8 a.1 a.2;have z:=PC (kV v) (kB v) l j.n
  have d:¬(gt (kB v) (gt l j)=aE/\gt (kV v) (gt l j)=(3,n-1))->∀k∈l.take (j+1).n,¬(gt (kB v) k=aE/\gt (kV v) k=(3,n-1)):=λh k a=>by
   rw[jt j0 f]at a;rcases aj.1 a with a|a
   .exact j2 k a
   .rw[cp.1 a];exact h
  rw[g,i]at d c;simp[f];generalize gt v (gt l j)=r at *;obtain⟨o,m,s⟩:=r;dsimp only at d c g i ⊢;(with_reducible repeat' first|refine Xk ?_<;>try simp|refine Xs ?_ ?_<;>intro h<;>(try intro B)<;>(try simp[h])<;>try omega|refine Xg ?_|omega)
  .have hl:Cg (kV v) (kB v) l n:=⟨_,gF j0 f,by rw[i];simp[*],by rw[g];simp[*]⟩;simp[pL,hl]
  .refine LJ.i (j+1) (by first|rfl|simp[c, *]) (by first|rfl|simp[c, *]) rfl rfl ?_;exact gX (d (by simp[*]))
  .refine LJ.i (j+1) (by first|rfl|simp[c, *]) (by first|rfl|simp[c, *]) rfl rfl ?_;exact gX (d (by simp[*]))
  .refine LJ.i (j+1) (by first|rfl|simp[c, *]) (by first|rfl|simp[c, *]) rfl rfl ?_;exact gX (d (by simp[*]))
 .have w:j=l.l:=by omega
  subst w;have hl:¬Cg (kV v) (kB v) l n:=λ⟨k,a,h⟩=>j2 k (by rw[lC U];exact a) h
  have p:(lY (kV v) (kB v) l l.l).1=l.l->max 0 (lY (kV v) (kB v) l l.l).2=(lY (kV v) (kB v) l l.l).2:=λe=>by have h1:=PD _ e 0 h0;have u:=T0 _ e 0 h0;have t:=gF (l:=l) (n:=((0:Nat):Int)) U U;have a:=q _ t;rw[w8 a.1 a.2]at u;rw[Bu a.1 a.2]at h1;have:=A _ t (by simpa using u.1);dsimp only at h1;omega
  simp[f];(with_reducible repeat' first|refine Xk ?_<;>try simp|refine Xs ?_ ?_<;>intro h<;>(try intro B)<;>(try simp[h])<;>try omega|refine Xg ?_|omega)
  .rw[p ‹_›]at h;simp[pL,hl, *]
  .rw[p ‹_›]at h;simp[pL,hl, *]
  .simp[pL,hl, *]
section
variable{g:gq}{l:List Pos}
theorem WM(hg:gR g)(a:lZ g l):xK g l (gE g l) (upto l.l) 1:=
 ⟨hg,a.ok,a.len,by simp[gE],λi i0 b=>⟨(pZ a i0 b).2,by rw[(pZ a i0 b).1,b4];have:=yN hg (a.ok _ (gF i0 b));omega⟩,λi hi=>jJ.1 hi,
  e7.2 (List.nodup_range.imp λh e=>h (Int.ofNat.inj e)),by simp[upto];exact a.len,U⟩
theorem FI.congr{v0 v v':List gg}{b y:List Bool}{n:Int}(H:lZ g l)(h:FI g l (gE g l) (upto l.l) v0 n v b)(G:v'.l=l.l)(I:y.l=l.l)
  (w:∀k:Int,0<=k->k<l.l->gt y k=gt b k) (A:∀k:Int,0<=k->k<l.l->gt b k=aE->gt v' k=gt v k):FI g l (gE g l) (upto l.l) v0 n v' y:=by
 have u:=λ(i:Int) (hi:i∈upto l.l)=>(pZ H (jJ.1 hi).1 (jJ.1 hi).2).2;have t:=λ(i:Int) (hi:i∈upto l.l) k d=>w k (u i hi k d).1 (u i hi k d).2;have r:=λ(i:Int) (hi:i∈upto l.l) k d=>A k (u i hi k d).1 (u i hi k d).2;refine⟨G,I,λk k0 k1 d=>absurd (jJ.2 ⟨k0,k1⟩) d,λi hi e=>?_,λi hi e n0=>?_⟩
 .have p:=jJ.1 hi;rw[w i p.1 p.2]at e;obtain⟨a,c⟩:=h.dec i hi e;rw[A i p.1 p.2 e];refine⟨a,?_⟩;rcases c with c|⟨B,⟨m,m1,c2,⟨k,d,s,x⟩,K⟩|⟨m,m1,c2,s,k,d,x⟩⟩
  .exact .inl c
  .refine .inr ⟨B,.inl ⟨m,m1,c2,⟨k,d,by rw[t i hi k d];exact s,by rw[r i hi k d s];exact x⟩,λq j f o=>?_⟩⟩;rw[t i hi q j]at f;rw[r i hi q j f]at o ⊢;exact K q j f o
  .refine .inr ⟨B,.inr ⟨m,m1,c2,λq j=>?_,k,d,by rw[r i hi k d (s k d).1];exact x⟩⟩;rw[t i hi q j,r i hi q j (s q j).1];exact s q j
 .have p:=jJ.1 hi;rw[w i p.1 p.2]at e;obtain⟨E,D,C⟩:=h.Cq i hi e n0;refine⟨E,λk d f o=>?_,λF J=>?_⟩
  .rw[t i hi k d]at f;rw[r i hi k d f]at o ⊢;exact D k d f o
  .have z:∀k∈gt (gE g l) i,gt b k=aE/\(gt v k).1=1:=λk d=>by obtain⟨f,o⟩:=J k d;rw[t i hi k d]at f;rw[r i hi k d f]at o;exact⟨f,o⟩
   obtain⟨k,d,h1⟩:=C F z;exact⟨k,d,by rw[r i hi k d (z k d).1];exact h1⟩
structure KI(g:gq)(l:List Pos)(n:Int)(v:List Kn):Prop where
 len:v.l=l.l
 fi:FI g l (gE g l) (upto l.l) [] n (kV v) (kB v)
theorem Y4(v:List Kn):(kV v).l=v.l:=by simp[kV]
theorem YZ(v:List Kn):(kB v).l=v.l:=by simp[kB]
theorem KI.start(o:lZ g l):KI g l 1 (l.map (s7 g)):=by
 have hl:(l.map (s7 g)).l=l.l:=fZ
 have j:∀k:Int,0<=k->k<l.l->gt (l.map (s7 g)) k=s7 g (gt l k):=λk k0 k1=>by rw[iX k0 (by rw[hl];exact k1),iX k0 k1,cc]
 have f:∀k:Int,0<=k->k<l.l->gt (kV (l.map (s7 g))) k=((stat g (gt l k)).1,0):=λk k0 k1=>by rw[Bu k0 (by rw[hl];exact k1),j k k0 k1];rfl
 have h:∀k:Int,0<=k->k<l.l->gt (kB (l.map (s7 g))) k = !(stat g (gt l k)).2:=λk k0 k1=>by rw[w8 k0 (by rw[hl];exact k1),j k k0 k1];rfl
 have b:=λ(i:Int) (hi:i∈upto l.l)=>(pZ o (jJ.1 hi).1 (jJ.1 hi).2).2;refine⟨hl,by rw[Y4,hl],by rw[YZ,hl],λk k0 k1 c=>absurd (jJ.2 ⟨k0,k1⟩) c,λi hi e=>?_,λi hi e _=>?_⟩
 .have a:=jJ.1 hi;rw[h i a.1 a.2]at e;rw[f i a.1 a.2];exact⟨fZ,.inl ⟨by simpa using e,rfl⟩⟩
 .have a:=jJ.1 hi;rw[h i a.1 a.2]at e;refine⟨by simpa using e,λk c _ _=>by rw[f k (b i hi k c).1 (b i hi k c).2];simp,λm _=>?_⟩;have p:=ay.2 m;have d:=gF (l:=gt (gE g l) i) (n:=0) U U;exact⟨_,d,by rw[f _ (b i hi _ d).1 (b i hi _ d).2];simp⟩
theorem KI.nn{n:Int}{v:List Kn}(h:KI g l n v){k:Int}(k0:0<=k)(k1:k<l.l)(e:(gt v k).2.2=bs):0<=(gt v k).2.1:=by
 have k2:k<v.l:=by rw[h.len];exact k1
 have:=(h.fi.dec k (jJ.2 ⟨k0,k1⟩) (by rw[w8 k0 k2,e];rfl)).1.1;rwa [Bu k0 k2]at this
theorem KI.ne{n:Int}{v:List Kn}(b:lZ g l)(h:KI g l n v)(n0:0<n){k:Int}(k0:0<=k)(k1:k<l.l)(e:(gt v k).2.2=aE):gt (gE g l) k≠[]:=λa=>by
 have k2:k<v.l:=by rw[h.len];exact k1
 have:=(h.fi.Cq k (jJ.2 ⟨k0,k1⟩) (by rw[w8 k0 k2,e];rfl) n0).1;rw[(pZ b k0 k1).1,List.map_eq_nil_iff]at a;unfold stat at this;simp[a]at this
theorem KI.step(hg:gR g)(m:lZ g l){n:Int}{v now:List Kn}(h:KI g l n v)(n1:1<=n)(hl:now.l=l.l)
  (q:∀k:Int,0<=k->k<l.l->gt now k=if (gt v k).2.2=aE then pL v (gt (gE g l) k) n else gt v k):KI g l (n+1) now:=by
 have o:=WM hg m;have s:=h.fi.vl;have p:=h.fi.bl;have hs:=h.fi.step (v0:=[]) o (λk k0 k1=>(dZ 0:0<=(gt ([]:List gg) k).2)) (by omega:0<=n)
 have d:∀k:Int,0<=k->k<l.l->(k∈tB g l (gE g l) (upto l.l) (kV v) (kB v) n↔(gt v k).2.2=aE/\(pN g (gt l k) (kV v) (kB v) (gt (gE g l) k) n).2=bs):=λk k0 k1=>by
  have k2:k<v.l:=by rw[h.len];exact k1
  unfold tB S6;rw[aS,ai,w8 k0 k2,jJ];simp only[dY];exact⟨λa=>⟨a.2.2,a.2.1⟩,λa=>⟨⟨k0,k1⟩,a.2,a.1⟩⟩
 have j:∀k:Int,0<=k->k<l.l->(gt v k).2.2=aE->((pN g (gt l k) (kV v) (kB v) (gt (gE g l) k) n).2=bs->pL v (gt (gE g l) k) n=((pN g (gt l k) (kV v) (kB v) (gt (gE g l) k) n).1.1,(pN g (gt l k) (kV v) (kB v) (gt (gE g l) k) n).1.2,bs))/\((pN g (gt l k) (kV v) (kB v) (gt (gE g l) k) n).2=aE->pL v (gt (gE g l) k) n=(0,0,aE)):=λk k0 k1 e=>by
  have r:=ay.2 (h.ne m U k0 k1 e);unfold pN pL;rw[if_neg U]
  by_cases i:Cg (kV v) (kB v) (gt (gE g l) k) n
  .rw[if_pos i,if_pos i];exact⟨λ_=>rfl,λe=>by cases e⟩
  .rw[if_neg i,if_neg i];simp only[decide_eq_true_eq,decide_eq_false_iff_not];exact⟨λa=>by rw[if_pos ⟨a.2.1,a.2.2⟩],λa=>by rw[if_neg λb=>a ⟨r,b⟩]⟩
 refine⟨hl,hs.congr m (by rw[Y4,hl]) (by rw[YZ,hl]) (λk k0 k1=>?_) λk k0 k1 e=>?_⟩
 .have k2:k<now.l:=by rw[hl];exact k1
  have k3:k<v.l:=by rw[h.len];exact k1
  rw[w8 k0 k2,QK o p k0 k1,q k k0 k1,w8 k0 k3]
  by_cases e:(gt v k).2.2=aE
  .rw[if_pos e]
   by_cases c:(pN g (gt l k) (kV v) (kB v) (gt (gE g l) k) n).2=bs
   .rw[(j k k0 k1 e).1 c,if_pos ((d k k0 k1).2 ⟨e,c⟩)];rfl
   .rw[(j k k0 k1 e).2 (by simpa using c),if_neg λa=>c ((d k k0 k1).1 a).2,e]
  .rw[if_neg e,if_neg λa=>e ((d k k0 k1).1 a).1]
 .have k2:k<now.l:=by rw[hl];exact k1
  have k3:k<v.l:=by rw[h.len];exact k1
  rw[QK o p k0 k1,w8 k0 k3]at e;rw[Bu k0 k2,W8 o s p k0 k1,q k k0 k1,Bu k0 k3]
  by_cases f:(gt v k).2.2=aE
  .rw[if_pos f]
   by_cases c:(pN g (gt l k) (kV v) (kB v) (gt (gE g l) k) n).2=bs
   .rw[(j k k0 k1 f).1 c,if_pos ((d k k0 k1).2 ⟨f,c⟩)];rfl
   .rw[if_neg λa=>c ((d k k0 k1).1 a).2,f]at e;cases e
  .rw[if_neg f,if_neg λa=>f ((d k k0 k1).1 a).1]
theorem KI.done(hg:gR g)(r:lZ g l){v:List Kn}(h:KI g l (l.l+1) v){out:List gg}(hl:out.l=l.l)
  (s:∀k:Int,0<=k->k<l.l->gt out k=if (gt v k).2.2=bs then((gt v k).1,(gt v k).2.1)else(2,0)):∀k:Int,0<=k->k<l.l->na (jv g l (gE g l)) out k:=by
 have o:=WM hg r;have d:=λ(i:Int) (hi:i∈upto l.l)=>(pZ r (jJ.1 hi).1 (jJ.1 hi).2).2
 have u:=U5 (n:=l.l) (N:=λi=>(gt (kV v) i).2) (K:=λi=>i∈upto l.l/\gt (kB v) i=aE) (λi hi=>⟨jJ.1 hi.1,(h.fi.dec i hi.1 hi.2).1.1⟩) (λi hi=>by
  rcases(h.fi.dec i hi.1 hi.2).2 with⟨_,c⟩|⟨_,⟨m,m1,c2,⟨k,b,p,j⟩,_⟩|⟨m,m1,c2,p,k,b,j⟩⟩
  .left;show(gt (kV v) i).2=0;rw[c]
  .right;exact⟨k,⟨jJ.2 (d i hi.1 k b),p⟩,by show(gt (kV v) k).2=(gt (kV v) i).2-1;rw[c2,j]⟩
  .right;exact⟨k,⟨jJ.2 (d i hi.1 k b),(p k b).1⟩,by show(gt (kV v) k).2=(gt (kV v) i).2-1;rw[c2,j]⟩)
 have t:=ae9 o U h.fi (λk k0 k1 e _=>by have:=u k ⟨jJ.2 ⟨k0,k1⟩,e⟩;omega);obtain⟨_,f2⟩:=WB o h.fi.vl h.fi.bl
 have q:∀k:Int,0<=k->k<l.l->gt out k=gt (w6 (upto l.l) (kV v) (kB v)).1 k:=λk k0 k1=>by
  have k2:k<v.l:=by rw[h.len];exact k1
  rw[s k k0 k1,(f2 k k0 k1).1,w8 k0 k2,Bu k0 k2]
  by_cases e:(gt v k).2.2=bs
  .rw[if_pos e,if_neg λa=>by rw[e]at a;exact absurd a.2 fZ]
  .rw[if_neg e,if_pos ⟨jJ.2 ⟨k0,k1⟩,by simpa using e⟩]
 exactλi i0 f=>(t i (jJ.2 ⟨i0,f⟩)).congr (q i i0 f) λk b=>q k (d i (jJ.2 ⟨i0,f⟩) k b).1 (d i (jJ.2 ⟨i0,f⟩) k b).2
end
def afx{α:Type}[Inhabited α]{l:List α}{x:α}{n:Int}(h:n.n=l.l):gt (l ++ [x]) n=x:=by unfold gt;rw[bb,ak U,h,bW];rfl
set_option maxHeartbeats 8000000
def Eo{α:Type}(d:α->D)(F:α->gd)(Q:α->Prop):D->gd->Prop:=λr H=>∃x,r=d x/\H=F x/\Q x
@[simp] theorem aoO{α:Type}(d:α->D)(F:α->gd)(Q:α->Prop)(r:D)(H:gd):Eo d F Q r H = ∃x,r=d x/\H=F x/\Q x:=(rfl)
theorem gy.eo{α:Type}{g:α->D}{F:α->gd}{Q:α->Prop}{f:FuncId}{args nM:List D}{dst:Option Nat}{s:St}{K:St->Prop}{fn:jq}(i:T.fn f=some fn)(c:fn.full=aE)(h:Wf T f nM [] (Eo g F Q))
  (e:args.map (gw (λ_=>none) s.H 40)=nM) (b:∀x,(if gK args then mL (g x)&&(F x).all nN else oR (g x)&&(F x).all pv)=bs)
  (k:∀x,Q x->K { s with env:=put s.env dst (kE s.H.l (g x)),H:=s.H++F x }):gy T f args dst s K .mk:=by
 refine gy.is i c (K0:=Eo g F Q) (by rw[e];exact h) ?_;rintro d Hn ⟨x,rfl,rfl,a⟩;refine⟨_,?_,k x a⟩;unfold after;rw[if_pos (b x)]
def aeZ(g:gq)(hg:gR g)(l:List Pos)(hl:lZ g l)(v:List gg)(p:v.l=l.l):Wf T 72 [dG g,gP l,.sl 1 ((gE g l).map fI),iw v] [] (Eo (λu:List Int=>.gf 0 u.l 1 0 u.l) (λu=>[.row 3 u.l (cl f1 u)]) λ_=>True):=by
 have f:=hl.len;refine Wf.xo 1 (fn:=FN) rfl (by simp[FN]) ?_;simp[FN];refine gx.e ((0,[]):Int×List Int) (λy=>[(1,gP l),(2,.sl 1 ((gE g l).map fI)),(3,iw v),(4,.ptr 0 0 0),(9,.gf 1 y.2.l 1 0 y.2.l),(10,.i y.1)]) (λy=>[.row 43 0 g.cells,.row 3 y.2.l (cl f1 y.2)]) (λy=>0<=y.1/\y.1<=v.l/\y.2.l=y.1.n) (λy=>v.l-y.1.n) ?_ ?_
 .simp
 rintro⟨i,w⟩ ⟨i0,n,m⟩;dsimp only at i0 n m ⊢;simp;(with_reducible repeat' first|refine Xk ?_<;>try simp|refine Xs ?_ ?_<;>intro h<;>(try intro k)<;>(try simp[h])<;>try omega|refine Xg ?_|omega)
 .refine LJ.e (i+1,w ++ [(gt v i).1]) ?_;exact gX gL
 .exact⟨w,fZ⟩
 .have c:=f68 g hg l hl 0 U;simp only[dG,gq.cells]at c;rw[h]at c;refine gy.q rfl rfl c fZ (λr=>by simp[xZ]) ?_;intro r o;simp;refine gx.e ((0,w):Int×List Int) (λy=>[(1,gP l),(3,iw v),(9,.gf 1 w.l 1 0 w.l),(11,.i 1),(12,.sl 1 (r.map fB)),(13,.i y.1)]) (λy=>[.row 43 0 g.cells,.row 3 w.l (cl f1 y.2)]) (λy=>0<=y.1/\y.1<=l.l/\y.2.l=w.l) (λy=>l.l-y.1.n) ?_ ?_
  .simp
  rintro⟨j,u⟩ ⟨j0,j1,j2⟩;dsimp only at j0 j1 j2 ⊢
  by_cases d:j<l.l
  .have a:∀x:Int,(pt u j x).l=u.l:=λx=>iW j0 U;have b:∀x y:Int,pt (pt u j x) j y=pt u j y:=λx y=>aap j0 U;have e:=hl.ok _ (gF j0 d);simp[d];refine gh ?_;refine Yt (f69 (gt v j).1 _ e.side) ?_;simp[a,b];(with_reducible repeat' first|refine Xk ?_<;>try simp[a,b]|refine Xs ?_ ?_<;>intro h<;>(try intro k)<;>(try simp[h,a,b])<;>try omega|refine Xg ?_|omega)
   all_goals first
    | (refine LJ.i (j+1,u) rfl rfl rfl rfl (gX (by first|exact j2|(dsimp only;rw[a];exact j2)));done)
    | (refine LJ.i (j+1,pt u j 2) rfl rfl rfl rfl (gX (by first|exact j2|(dsimp only;rw[a];exact j2)));done)
    | (refine LJ.i (j+1,pt u j 1) rfl rfl rfl rfl (gX (by first|exact j2|(dsimp only;rw[a];exact j2)));done)
    | (refine LJ.i (j+1,pt u j 3) rfl rfl rfl rfl (gX (by first|exact j2|(dsimp only;rw[a];exact j2)));done)
  .simp[d];exact⟨u,by simp[j2]⟩
 .have c:=f68 g hg l hl 1 U;simp only[dG,gq.cells]at c;refine gy.q rfl rfl c fZ (λr=>by simp[xZ]) ?_;intro r o;simp;refine gx.e ((0,w):Int×List Int) (λy=>[(1,gP l),(3,iw v),(9,.gf 1 w.l 1 0 w.l),(11,.i 0),(12,.sl 1 (r.map fB)),(13,.i y.1)]) (λy=>[.row 43 0 g.cells,.row 3 w.l (cl f1 y.2)]) (λy=>0<=y.1/\y.1<=l.l/\y.2.l=w.l) (λy=>l.l-y.1.n) ?_ ?_
  .simp
  rintro⟨j,u⟩ ⟨j0,j1,j2⟩;dsimp only at j0 j1 j2 ⊢
  by_cases d:j<l.l
  .have a:∀x:Int,(pt u j x).l=u.l:=λx=>iW j0 U;have b:∀x y:Int,pt (pt u j x) j y=pt u j y:=λx y=>aap j0 U;have e:=hl.ok _ (gF j0 d);simp[d];refine gh ?_;refine Yt (f69 (gt v j).1 _ e.side) ?_;simp[a,b];(with_reducible repeat' first|refine Xk ?_<;>try simp[a,b]|refine Xs ?_ ?_<;>intro h<;>(try intro k)<;>(try simp[h,a,b])<;>try omega|refine Xg ?_|omega)
   all_goals first
    | (refine LJ.i (j+1,u) rfl rfl rfl rfl (gX (by first|exact j2|(dsimp only;rw[a];exact j2)));done)
    | (refine LJ.i (j+1,pt u j 2) rfl rfl rfl rfl (gX (by first|exact j2|(dsimp only;rw[a];exact j2)));done)
    | (refine LJ.i (j+1,pt u j 1) rfl rfl rfl rfl (gX (by first|exact j2|(dsimp only;rw[a];exact j2)));done)
    | (refine LJ.i (j+1,pt u j 3) rfl rfl rfl rfl (gX (by first|exact j2|(dsimp only;rw[a];exact j2)));done)
  .simp[d];exact⟨u,by simp[j2]⟩
def aeY(g:gq)(hg:gR g)(l:List Pos)(hl:lZ g l)(M:0<l.l):Wf T 71 [dG g,gP l,.sl 1 ((gE g l).map fI)] [] (Eo (λr:List gg=>.gf 0 r.l 2 0 r.l) (λr=>[.row 86 r.l (cl fS r)]) λr=>r.l=l.l/\∀k:Int,0<=k->k<l.l->na (jv g l (gE g l)) r k):=by
 have D:=hl.len;have L:(gE g l).l=l.l:=by simp[gE]
 refine Wf.xo 1 (fn:=FM) rfl (by simp[FM]) ?_;simp[FM];refine Yn (ae3 g hg l hl) ?_;simp;have P:(l.map (s7 g)).l=l.l:=fZ;have N:=KI.start hl;generalize Q:l.map (s7 g)=v0 at *;refine gx.e ((1,bs,l.l,v0):Int×Bool×Nat×List Kn) (λy=>[(1,gP l),(2,.sl 1 ((gE g l).map fI)),(7,.gf (if y.2.1 then 1 else 2) y.2.2.1 3 0 l.l),(8,.i y.1)]) (λy=>.row 43 0 g.cells :: .row 245 l.l (cl fK v0)::(if y.2.1 then []else [.row 245 y.2.2.1 (cl fK y.2.2.2)])) (λy=>1<=y.1/\y.1<=l.l+1/\KI g l y.1 y.2.2.2/\(y.2.1=bs->y.2.2.1=l.l/\y.2.2.2=v0/\y.1=1)) (λy=>l.l+1-y.1.n) ?_ ?_
 .grind
 rintro⟨n,b,p,v⟩ ⟨n0,n1,m,A⟩;dsimp only at n0 n1 m A ⊢;have n2:=m.len
 have F:∀i:Int,0<=i->i<l.l->∀k∈gt (gE g l) i,0<=k/\k<v.l:=λi a c k o=>by have:=(pZ hl a c).2 k o;omega
 have C:∀i:Int,0<=i->i<l.l->(gt (gE g l) i).l<2 ^ 40:=λi a c=>by rw[(pZ hl a c).1,b4];have:=yN hg (hl.ok _ (gF a c));omega
 have t:∀i:Int,0<=i->i<l.l->∀k∈gt (gE g l) i,(gt v k).2.2=bs->0<=(gt v k).2.1:=λi a c k o e=>m.nn ((pZ hl a c).2 k o).1 ((pZ hl a c).2 k o).2 e;have u:∀i:Int,0<=i->i<l.l->(gt v i).2.2=aE->0<(gt (gE g l) i).l:=λi a c e=>ay.2 (m.ne hl U a c e);cases b
 .simp;refine kj ?_ ?_<;>intro h
  .refine gx.e ((0,v):Int×List Kn) (λy=>[(1,gP l),(2,.sl 1 ((gE g l).map fI)),(7,.gf 2 p 3 0 l.l),(8,.i n),(9,.gf 3 1 3 0 l.l),(10,.i y.1)]) (λy=>[.row 43 0 g.cells,.row 245 l.l (cl fK v0),.row 245 p (cl fK v),.row 245 1 (cl fK y.2)]) (λy=>0<=y.1/\y.1<=l.l/\y.2.l=l.l/\∀k:Int,0<=k->k<l.l->gt y.2 k=if k<y.1/\(gt v k).2.2=aE then pL v (gt (gE g l) k) n else gt v k) (λy=>l.l-y.1.n) ?_ ?_
   .grind
   rintro⟨j,now⟩ ⟨j0,j1,j2,j3⟩;dsimp only at j0 j1 j2 j3 ⊢;simp;(with_reducible repeat' first|refine Xk ?_<;>try simp|refine Xs ?_ ?_<;>intro h<;>(try intro E)<;>(try simp[h])<;>try omega|refine Xg ?_|omega)
   .refine LJ.e (j+1,now) ?_;refine gX ⟨j2,λk k0 k1=>?_⟩;dsimp only;rw[j3 k k0 k1]
    by_cases e:k=j
    .grind
    .grind
   .refine gy.r rfl rfl (Wx v _ n U (u j j0 ‹_› ‹_›) (C j j0 ‹_›) (F j j0 ‹_›) (t j j0 ‹_›)) (by simp[n2]) (by simp[flat,oX]) fZ ?_;simp;refine gh ?_;have d:=MG (f:=fK) now j U (pL v (gt (gE g l) j) n);rw[DI]at d;refine LJ.i (j+1,pt now j (pL v (gt (gE g l) j) n)) (by first|rfl|simp[<-d]) (by first|rfl|simp[<-d]) rfl rfl ?_;have I:=iW (l:=now) (n:=j) (v:=pL v (gt (gE g l) j) n) j0 U;refine AB (λk k0 k1=>?_);dsimp only;rw[py j0 U k0,j3 k k0 k1]
    by_cases e:k=j
    .grind
    .grind
   .refine LJ.e (n+1,aE,1,now) ?_;refine gX ⟨?_,λh=>by cases h⟩;refine m.step hg hl n0 j2 λk k0 k1=>?_;rw[j3 k k0 k1];simp only[(U:k<j),true_and]
  .have s:n=l.l+1:=by omega
   subst s;refine gx.e ((0,v,[]):Int×List Kn×List gg) (λy=>[(1,gP l),(7,.gf 2 p 3 0 l.l),(11,.gf 3 y.2.2.l 2 0 y.2.2.l),(12,.i y.1)]) (λy=>[.row 43 0 g.cells,.row 245 l.l (cl fK v0),.row 245 p (cl fK y.2.1),.row 86 y.2.2.l (cl fS y.2.2)]) (λy=>0<=y.1/\y.1<=l.l/\y.2.1.l=l.l/\y.2.2.l=y.1.n/\(∀k:Int,0<=k->k<y.1->gt y.2.2 k=if (gt v k).2.2=bs then((gt v k).1,(gt v k).2.1)else(2,0))/\(∀k:Int,y.1<=k->k<l.l->gt y.2.1 k=gt v k)) (λy=>l.l-y.1.n) ?_ ?_
   .grind
   rintro⟨j,w,out⟩ ⟨j0,j1,j2,j3,j4,j5⟩;dsimp only at j0 j1 j2 j3 j4 j5 ⊢
   by_cases q:j<l.l
   .have d:=acx (l:=w) (n:=j) U 2 0;have B:∀v,(pt w j v).l=w.l:=λv=>iW j0 U;have H:∀v,gt (pt w j v) j=v:=λv=>DN j0 U;have G:=j5 j U q
    have z:∀(x:gg),((gt v j).2.2=bs->x=((gt v j).1,(gt v j).2.1))->((gt v j).2.2=aE->x=(2,0))->∀k:Int,0<=k->k<j+1->gt (out ++ [x]) k=if (gt v k).2.2=bs then((gt v k).1,(gt v k).2.1)else(2,0):=λx K J k k0 k1=>by
     by_cases e:k=j
     .subst e;rw[afx U]
      by_cases O:(gt v k).2.2=bs
      .grind
      .grind
     .rw[W6 U U];exact j4 k k0 U
    simp[q,d];refine abM d B H ?_ ?_<;>intro h
    .refine LJ.e (j+1,w,out ++ [((gt w j).1,(gt w j).2.1)]) ?_;rw[G]at *;refine⟨gJ,gJ,gJ,gJ,gL,z _ (λ_=>rfl) (λe=>by simp[*]at e),λk k0 k1=>j5 k (by dsimp only at k0;omega) k1⟩
    .refine LJ.e (j+1,pt w j (2,0,aE),out ++ [(2,0)]) ?_;rw[G]at *;refine⟨gJ,gJ,gJ,by dsimp only;rw[B];omega,gL,z _ (λe=>by simp[*]at e) (λ_=>rfl),λk k0 k1=>?_⟩;dsimp only at k0 ⊢;rw[py j0 U U,if_neg U];exact j5 k U k1
   .simp[q];exact⟨out,rfl,rfl,U,m.done hg hl U λk k0 k1=>j4 k k0 U⟩
 .obtain⟨rfl,rfl,rfl⟩:=A rfl;simp;(with_reducible repeat' first|refine Xk ?_<;>try simp|refine Xs ?_ ?_<;>intro h<;>(try intro E)<;>(try simp[h])<;>try omega|refine Xg ?_|omega)
  .refine gx.e ((0,v):Int×List Kn) (λy=>[(1,gP l),(2,.sl 1 ((gE g l).map fI)),(7,.gf 1 l.l 3 0 l.l),(8,.i 1),(9,.gf 2 1 3 0 l.l),(10,.i y.1)]) (λy=>[.row 43 0 g.cells,.row 245 l.l (cl fK v),.row 245 1 (cl fK y.2)]) (λy=>0<=y.1/\y.1<=l.l/\y.2.l=l.l/\∀k:Int,0<=k->k<l.l->gt y.2 k=if k<y.1/\(gt v k).2.2=aE then pL v (gt (gE g l) k) 1 else gt v k) (λy=>l.l-y.1.n) ?_ ?_
   .grind
   rintro⟨j,now⟩ ⟨j0,j1,j2,j3⟩;dsimp only at j0 j1 j2 j3 ⊢;simp;(with_reducible repeat' first|refine Xk ?_<;>try simp|refine Xs ?_ ?_<;>intro h<;>(try intro E)<;>(try simp[h])<;>try omega|refine Xg ?_|omega)
   .refine LJ.e (j+1,now) ?_;refine gX ⟨j2,λk k0 k1=>?_⟩;dsimp only;rw[j3 k k0 k1]
    by_cases e:k=j
    .grind
    .grind
   .refine gy.r rfl rfl (Wx v _ 1 U (u j j0 ‹_› ‹_›) (C j j0 ‹_›) (F j j0 ‹_›) (t j j0 ‹_›)) (by simp[n2]) (by simp[flat,oX]) fZ ?_;simp;refine gh ?_;have d:=MG (f:=fK) now j U (pL v (gt (gE g l) j) 1);rw[DI]at d;refine LJ.i (j+1,pt now j (pL v (gt (gE g l) j) 1)) (by first|rfl|simp[<-d]) (by first|rfl|simp[<-d]) rfl rfl ?_;have I:=iW (l:=now) (n:=j) (v:=pL v (gt (gE g l) j) 1) j0 U;refine AB (λk k0 k1=>?_);dsimp only;rw[py j0 U k0,j3 k k0 k1]
    by_cases e:k=j
    .grind
    .grind
   .refine LJ.e (1+1,aE,1,now) ?_;refine gX ⟨?_,λh=>by cases h⟩;refine m.step hg hl U j2 λk k0 k1=>?_;rw[j3 k k0 k1];simp only[(U:k<j),true_and]
def aeQ(g:gq)(hg:gR g)(l:List Pos)(hl:lZ g l)(b:0<l.l):Wf T 25 [dG g,gP l] [] (Eo (λx:List gg×List Int=>.agg [.gf 0 x.1.l 2 0 x.1.l,dI x.2,.i 0]) (λx=>[.row 86 x.1.l (cl fS x.1)]) λx=>x.1.l=l.l/\∀k:Int,0<=k->k<l.l->na (jv g l (gE g l)) x.1 k):=by refine Wf.xo 3 (fn:=FB) rfl (by simp[FB]) ?_;simp[FB];refine Yc (f37 g hg l hl) ?_;simp;refine gy.eo rfl rfl (aeY g hg l hl b) fZ fZ λv a=>?_;simp;refine gy.eo rfl rfl (aeZ g hg l hl v a.1) fZ fZ λf c=>?_;simp;exact⟨v,rfl,⟨f,rfl⟩,rfl,rfl,a⟩
