/- Part 35 of DisputeMatchesReference. -/
import Derived.Test.YtmehofoficaelaaGreatDoorM25
set_option linter.all false
open Bool renaming false→aE,true→bs
open List renaming getD_eq_getElem?_getD→bb,replicate→b4,length→List.l
open Int renaming toNat→Int.n
namespace Go.Proofs.YtmehofoficaelaaGreatDoor
open Go Go.AL Classical
set_option maxRecDepth 10000
set_option maxHeartbeats 4000000
def R4(v:List gj)(b:List Bool):Nat->Int
 | 0 => -1
 | n+1=>if gt b (n:Int)=aE/\(gt v (n:Int)).1≠2 then max (R4 v b n) (gt v (n:Int)).2 else R4 v b n
@[simp] theorem avX(v:List gj)(b:List Bool):R4 v b 0 = -1:=rfl
def Pw(b:List Bool)(part:List Int)(n:Int):Nat->Int×Int
 | 0=>(0,-1)
 | k+1=>if gt b (gt part (k:Int))=bs/\wI (gt part (k:Int)) n≠(Pw b part n k).2 then((Pw b part n k).1+1,wI (gt part (k:Int)) n)else Pw b part n k
@[simp] theorem aw1(b:List Bool)(part:List Int)(n:Int):Pw b part n 0=(0,-1):=rfl
noncomputable def Cm(g:gv)(p:Pos):Int:=if ended g p then(gt g.clauses (vZ g p)).out else 0
def aeY{g:gv}{p:Pos}{i:Int}(i0:0<=i)(hi:i<g.clauses.l)(d:∀c∈g.clauses.take i.n,¬lR p c)(h:lR p (gt g.clauses i)):Cm g p=(gt g.clauses i).out:=by
 have a:ended g p:=⟨_,gF i0 hi,h⟩
 have b:g.clauses.findIdx (λc=>decide (lR p c))=i.n:=by
  rw[List.findIdx_eq U];refine⟨?_,λj e=>?_⟩
  .have:gt g.clauses i=g.clauses[i.n]:=by unfold gt;rw[bb,List.getElem?_eq_getElem U];rfl
   rw[<-this];simpa using h
  .simp only[decide_eq_false_iff_not];refine d _ ?_;rw[dW];exact⟨j,U,rfl⟩
 unfold Cm vZ;rw[if_pos a,if_pos a,b];congr 1
def agy(g:gv)(hg:gZ g)(p:Pos)(l:iI g p):Wf T 113 [dG g,dP p] [] (Is (.tup [.i (Cm g p),.b (decide (ended g p))])):=by
 have q:=hg.clauses;refine Yg Ej ?_;simp[Ej];refine gx.e (0:Int) (λy=>[(2,.ptr 0 0 0),(3,.ptr 1 0 0),(9,dN 4 Clause.cells g.clauses),(10,.i g.clauses.l),(11,.i y)]) (λy=>[.row 43 0 g.cells,.row 46 0 p.cells]) (λy=>0<=y/\y<=g.clauses.l/\∀c∈g.clauses.take y.n,¬lR p c) (λy=>(g.clauses.l-y).n) ?_ ?_
 .simp
 rintro i ⟨i0,n,k⟩
 by_cases hi:i<g.clauses.l
 .have m:=gF i0 hi;have d:=hg.clause _ m;have o:=d.ok;have r:lR p (gt g.clauses i)->decide (ended g p)=true:=λh=>decide_eq_true ⟨_,m,h⟩;have SG:lR p (gt g.clauses i)->ended g p:=λh=>⟨_,m,h⟩;have f:lR p (gt g.clauses i)->Cm g p=(gt g.clauses i).out:=λh=>aeY i0 hi k h
  have j:¬lR p (gt g.clauses i)->∀c∈g.clauses.take (i+1).n,¬lR p c:=λh c d=>by
   rw[jI i0 hi]at d;rcases aj.1 d with d|d
   .exact k c d
   .rw[List.mem_singleton.1 d];exact h
  simp[hi];refine gi ?_;rcases(U:(gt g.clauses i).cond=1\/(gt g.clauses i).cond=2\/(gt g.clauses i).cond=3)with e|e|e
  .simp[e];refine Yt (f294 g hg p l ⟨1,(gt g.clauses i).kind,(gt g.clauses i).n,(gt g.clauses i).out⟩ gI) ?_;simp;have b:lR p (gt g.clauses i)=(tX p p.side (gt g.clauses i).kind=0):=by simp[lR,e]
   by_cases a:tX p p.side (gt g.clauses i).kind=0
   .simp[a];exact⟨(f (b▸a)).symm,SG (b▸a)⟩
   .simp[a];refine gi ?_;refine LJ.e (i+1) ?_;exact ic (j (b▸a))
  .simp[e];refine Yt (f296 g hg p l ⟨2,(gt g.clauses i).kind,(gt g.clauses i).n,(gt g.clauses i).out⟩ gI gI) ?_;simp;have b:lR p (gt g.clauses i)=(gt p.cs (gt g.clauses i).n=mC (gt g.clauses i).kind (1-p.side)):=by simp[lR,e]
   by_cases a:gt p.cs (gt g.clauses i).n=mC (gt g.clauses i).kind (1-p.side)
   .simp[a];exact⟨(f (b▸a)).symm,SG (b▸a)⟩
   .simp[a];refine gi ?_;refine LJ.e (i+1) ?_;exact ic (j (b▸a))
  .simp[e];refine Yt (f297 g hg p l ⟨3,(gt g.clauses i).kind,(gt g.clauses i).n,(gt g.clauses i).out⟩) ?_;simp;have b:lR p (gt g.clauses i)=(tX p p.side (-1)<=(gt g.clauses i).n):=by simp[lR,e]
   by_cases a:tX p p.side (-1)<=(gt g.clauses i).n
   .simp[a];exact⟨(f (b▸a)).symm,SG (b▸a)⟩
   .simp[a];refine gi ?_;refine LJ.e (i+1) ?_;exact ic (j (b▸a))
 .simp[hi];have:¬ended g p:=λ⟨c,d,h⟩=>k c (by rw[lW U];exact d) h;simp[Cm,this]
def f54(g:gv)(hg:gZ g)(p:Pos)(a:iI g p):Wf T 58 [dG g,dP p] [] (Is (.tup [.i (stat g p).1,.b (stat g p).2])):=by
 have b:ended g p->jb g p = []:=PK;refine Yg M0 ?_;simp[M0];refine Yc (agy g hg p a) ?_;simp
 by_cases h0:ended g p
 .simp[h0,stat,Cm,b h0]
 .simp[h0,stat,Cm];refine Yc (f26 g hg p a) ?_;simp;refine kz ?_ ?_<;>intro h
  all_goals simp[h0, *]
set_option maxHeartbeats 8000000
def my(v:List gj)(b:List Bool)(x:List Int):Nat->Int×Int
 | 0=>(0,-1)
 | j+1=>if gt b (gt x (j:Int))=aE/\(gt v (gt x (j:Int))).1=1 then((my v b x j).1+1,max (my v b x j).2 (gt v (gt x (j:Int))).2)else my v b x j
@[simp] theorem aBA(v:List gj)(b:List Bool)(x:List Int):my v b x 0=(0,-1):=rfl
theorem aqi{v:List gj}{b:List Bool}{x:List Int}{i:Int}(i0:0<=i):my v b x (i+1).n=if gt b (gt x i)=aE/\(gt v (gt x i)).1=1 then((my v b x i.n).1+1,max (my v b x i.n).2 (gt v (gt x i)).2)else my v b x i.n:=by have h:(i+1).n=i.n+1:=U;have a:((i.n:Nat):Int)=i:=U;rw[h,my,a]
def Ds(v:List gj)(b:List Bool)(x:List Int)(n:Int):Prop:=∃k∈x,gt b k=aE/\gt v k=(3,n-1)
noncomputable def rh(g:gv)(p:Pos)(v:List gj)(b:List Bool)(x:List Int)(n:Int):gj×Bool:=
 if n=0 then(((stat g p).1,0),(stat g p).2)else
 if Ds v b x n then((1,n),bs)else((3,n),decide (0<x.l/\(my v b x x.l).1=x.l/\(my v b x x.l).2=n-1))
theorem QP(v:List gj)(b:List Bool)(x:List Int):∀k:Nat,0<=(my v b x k).1/\(my v b x k).1<=k
 | 0=>gf
 | k+1=>by
  have:=QP v b x k;unfold my;split
  .dsimp only;omega
  .omega
end Go.Proofs.YtmehofoficaelaaGreatDoor
namespace Go.Proofs.YtmehofoficaelaaGreatDoor
open Go Go.AL Classical
set_option maxRecDepth 10000
set_option maxHeartbeats 8000000
structure tF(g:gv)(m:List Int):Prop where
 len:m.l=g.kinds.l
 num:∀a∈m,1<=a/\a<=6
def lvC(m:List Int)(x:Int):Int:=if 0<=gV x then gt m (gV x)else 0
def T2(m cs:List Int):Nat->Int
 | 0=>0
 | i+1=>T2 m cs i+lvC m (gt cs (i:Int))
def T5(m a b:List Int):Nat->Int
 | 0=>0
 | i+1=>T5 m a b i+gt m (i:Int)*(gt a (i:Int)+gt b (i:Int))
def aor(r:Int):Int:=if r=0 then 0 else if r=3 then 2 else 1
def Ji(m:List Int)(p:Pos):Int:=T2 m p.cs p.cs.l+T5 m p.h0 p.h1 m.l+aor p.gX
@[simp] theorem axC(m cs:List Int):T2 m cs 0=0:=rfl
@[simp] theorem axD(m a b:List Int):T5 m a b 0=0:=rfl
section
variable{g:gv}{m:List Int}{p:Pos}
end
end Go.Proofs.YtmehofoficaelaaGreatDoor
namespace Go.AL
open Go
section
variable{T:iL}{live:List Nat}{a:IR}{s:St}{K:ju}{α:Type}
theorem gx.kg(ms:List Nat)(rd:Bool)(b:α)(E:α->Env)(c:α->gg)(P:α->Prop)(d:α->Nat)
  (h0:P b) (l:forget ((E b).map (·.1)) s.env=E b) (j:s.H=c b) (i:s.marks=ms) (g:s.iM=rd) (f:(((E b).map (·.1)).all λk=>live.contains k)=bs)
  (h:∀x,P x->XC T a { env:=E x,H:=c x,marks:=ms,iM:=rd } (xI s.H.l live ((E b).map (·.1)) (LJ E c ms rd (λe=>d e<d x/\P e) .mk) K)):gx T live a s K .mk:=
 gx.j b E c P d h0 l j f (by rw[i,g];exact h)
end
def N'(H:gg):Option Ob->Option D
 | some (.jG (.gM m) since seen)=>(mq H m).bind λp=>seen.getLast?.bind λi=>p.2[i]?.bind λe=>if p.2.l=since then some (.tup [tW e.1,e.2])else none
 | _=>none
theorem aeZ(H:gg)(x:Option Ob):(match x with
  | some (.jG (.gM m) since seen)=>(match mq H m,seen.getLast? with
   | some (_,es),some i=>(match es[i]? with
    | some (k,d)=>if es.l=since then some (.tup [tW k,d])else none
    | none=>none)
   | _,_=>none)
  | _=>none)=N' H x:=by
 unfold N';split
 .rename_i m since seen
  cases a:mq H m with
  | none=>simp
  | some p=>
   cases hs:seen.getLast? with
   | none=>simp
   | some i=>
    simp only[Option.bind_some];cases p.2[i]? <;> rfl
 .rfl
@[simp] theorem au8(v:Nat)(H:gg):Oa (.ptr v 0 0) H=N' H H[v]? := aeZ H H[v]?
@[simp] theorem au7(H:gg)(m since:Nat)(seen:List Nat):N' H (some (.jG (.gM m) since seen))=(mq H m).bind λp=>seen.getLast?.bind λi=>p.2[i]?.bind λe=>if p.2.l=since then some (.tup [tW e.1,e.2])else none:=rfl
@[simp] theorem azj(m:Nat)(H:gg)(a:Nat):JF (.gM m) H a=(mq H m).bind λp=>some (.ptr a 0 0,.new (.jG (.gM m) p.2.l [])):=by simp only[JF];cases mq H m<;>rfl
def vP.at{v m since:Nat}{seen:List Nat}{kk:KK}{es:List (Value×D)}{dst:Option Nat}{s:St}{K:St->Prop}(a:s.H[v]? = some (.jG (.gM m) since seen))(b:s.H[m]? = some (.map kk es))(hs:es.l=since)
  (h0:(∀i,i<es.l->i∈seen)->K { s with env:=put s.env dst (.tup [.b aE]) })
  (h1:∀i k d,es[i]? = some (k,d)->i ∉ seen->K { s with env:=put s.env dst (.tup [.b bs,tW k,d]),H:=s.H.set v (.jG (.gM m) since (seen ++ [i])) }):vP (.ptr v 0 0) dst s K .mk:=
 ⟨v,m,since,seen,kk,es,rfl,a,b,hs,h0,h1⟩
@[simp] theorem atE(t:TypeId)(v k o n:Nat):uk t (.ptr v k o) n=some (.ptr n 0 0,.new (.row t 0 [.ptr v k o])):=rfl
@[simp] theorem ayw(n:Nat)(m:D)(since:Nat)(seen:List Nat):pZ n (.jG m since seen) = []:=rfl
@[simp] theorem azY(ρ:Nat->Option Nat)(H:gg)(m:D)(since:Nat)(seen:List Nat):wN ρ H (some (.jG m since seen)) = .jG (gA ρ H 40 m) since seen:=rfl
end Go.AL
namespace Go.Proofs.YtmehofoficaelaaGreatDoor
open Go Go.AL Classical
set_option maxRecDepth 10000
set_option maxHeartbeats 8000000
def ag1{α:Type}[Inhabited α]{l a:List α}(h:l.l=a.l)(k:∀j:Int,0<=j->j<l.l->gt l j=gt a j):l=a:=
 bj h λi h1 b=>by have:=k i U U;rwa [CF h1,CF b]at this
def tz{α:Type}(v:List α)(a:Int->α):List Int->List α
 | []=>v
 | i::r=>tz (pt v i (a i)) a r
@[simp] theorem azg{α:Type}(a:Int->α)(v:List α):tz v a []=v:=rfl
theorem ab0{α:Type}(a:Int->α)(i:Int):∀(r:List Int) (v:List α),tz v a (r ++ [i])=pt (tz v a r) i (a i)
 | [],v=>rfl
 | j::r,v=>ab0 a i r (pt v j (a j))
theorem F5{α:Type}[Inhabited α](a:Int->α):∀(r:List Int) (v:List α),(∀i∈r,0<=i/\i<v.l)->(tz v a r).l=v.l
 | [],v,_=>rfl
 | i::r,v,h=>by have h1:=h i gf;have b:=jg (v:=a i) h1.1 h1.2;rw[tz,F5 a r _ λj c=>by rw[b];exact h j (by simp[c]),b]
theorem CG{α:Type}[Inhabited α](a:Int->α):∀(r:List Int) (v:List α),(∀i∈r,0<=i/\i<v.l)->∀j:Int,0<=j->j<v.l->gt (tz v a r) j=if j∈r then a j else gt v j
 | [],v,_,j,_,_=>by simp[tz]
 | i::r,v,h,j,j0,j1=>by
  have h1:=h i gf;have d:=jg (v:=a i) h1.1 h1.2;rw[tz,CG a r _ (λk c=>by rw[d];exact h k (by simp[c])) j j0 U,qj h1.1 h1.2 j0]
  by_cases b:j∈r
  .simp[b]
  .by_cases e:j=i
   .subst e;simp[b]
   .simp[b,e]
def esD(a:Int->gj)(ds:List Int):List (Value×D):=ds.map λi=>(.int .i64 i,.agg [.i (a i).1,.i (a i).2])
@[simp] theorem avc(a:Int->gj):esD a [] = []:=rfl
section
variable(g:gv)(l:List Pos)(nx:List (List Int))(part:List Int)
noncomputable def N8(v:List gj)(b:List Bool)(n:Int)(i:Int):gj:=(rh g (gt l i) v b (gt nx i) n).1
noncomputable def Us(v:List gj)(b:List Bool)(n:Int)(i:Int):Bool:=(rh g (gt l i) v b (gt nx i) n).2&&gt b i
noncomputable def uV(v:List gj)(b:List Bool)(n:Int):List Int:=part.filter (Us g l nx v b n)
noncomputable def rV(v:List gj)(b:List Bool)(n:Int):List gj:=tz v (N8 g l nx v b n) (uV g l nx part v b n)
noncomputable def rB(v:List gj)(b:List Bool)(n:Int):List Bool:=tz b (λ_=>aE) (uV g l nx part v b n)
def yf(v:List gj)(b:List Bool):List gj×List Bool:=(tz v (λ_=>(2,0)) (part.filter λi=>gt b i),tz b (λ_=>aE) (part.filter λi=>gt b i))
@[simp] theorem avn(v:List gj)(b:List Bool):yf [] v b=(v,b):=rfl
end
def gk(ds:List Int)(a:List Nat):List Int:=a.map λj:Nat=>gt ds (j:Int)
@[simp] theorem avN(ds:List Int):gk ds [] = []:=rfl
theorem HA{l:List gj}{n:Int}(a b:Int):(cl fS l).take (n.n*2) ++ .i a :: .i b::(cl fS l).drop (n.n*2+2)=cl fS (pt l n (a,b)):=by rw[(U:n.n*2+2=(n.n+1)*2),vX,y9];unfold pt;rw[<-Cf,nS,Cv];rfl
def aeL{g:gv}{l:List Pos}{nx:List (List Int)}{part:List Int}{v:List gj}{b:List Bool}{n i:Int}(h:i∈uV g l nx part v b n):i∈part:=(aO.1 h).1
def QF(w:Bool)(g:gv)(l:List Pos)(nx:List (List Int)):List D:=[.gh (bif w then 3 else 4) (bif w then 0 else 1) 2 0 l.l,.gh (bif w then 4 else 3) 0 1 0 l.l,.i g.size,.sl 1 (g.next.map fI),dI g.jS,.sl 3 (g.kinds.map Kind.cells),.i g.gX,.b g.pI,dN 4 Clause.cells g.clauses,.i g.blocked,.i g.w7,gT l,.sl 1 (nx.map fN)]
def tp(w:Bool):D:=.ptr (bif w then 2 else 1) 0 0
def H5(w:Bool)(z:List gj)(g:gv)(l:List Pos)(nx:List (List Int))(m:List Int)(v:List gj)(b:List Bool):gg:=
 bif w then [.row 43 0 g.cells,.row 56 0 [dI m],.row 132 0 (QF w g l nx),.row 86 0 (cl fS v),.row 4 0 (cl fB b)]else [.row 43 0 g.cells,.row 132 0 (QF w g l nx),.row 86 0 (cl fS z),.row 4 0 (cl fB b),.row 86 1 (cl fS v)]
def HF(w:Bool)(z:List gj)(g:gv)(l:List Pos)(nx:List (List Int))(m:List Int)(part:List Int)(n t:Int)(v:List gj)(b:List Bool)(st:sB):gg:=
 H5 w z g l nx m v b ++ [.row 125 0 [tp w],.row 37 0 [dI part],.row 3 0 [.i n],.row 3 0 [.i t],.row 125 0 [tp w],.ka,.iE 3456 [(3,.ptr 5 0 0),(4,.ptr 6 0 0),(5,.ptr 7 0 0),(9,.ptr 8 0 0)] st]
structure yP(g:gv)(l:List Pos)(nx:List (List Int))(part:List Int)(bu:Int):Prop where
 gm:gZ g
 ps:∀p∈l,iI g p
 len:l.l<=4000
 nxl:nx.l=l.l
 nxk:∀i:Int,0<=i->i<l.l->(∀k∈gt nx i,0<=k/\k<l.l)/\(gt nx i).l<=4000000000
 prt:∀i∈part,0<=i/\i<l.l
 nd:part.Nodup
 pl:part.l<=4000
 bu:1<=bu/\bu<=9223372036854775807
end Go.Proofs.YtmehofoficaelaaGreatDoor
namespace Go.AL
open Go
def RB:Nat->List (Int×List Int)->List (Value×D)
 | _,[]=>[]
 | k,e::r=>(.int .i64 e.1,.gh k (e.2.l-1) 1 0 e.2.l)::RB (k+1) r
def rwF(ls:List (Int×List Int)):gg:=ls.map λe=>.row 3 (e.2.l-1) (cl f1 e.2)
def LH(m:List Int)(ls:List (Int×List Int)):gg:=.row 56 0 [dI m] :: .map (.int .i64) (RB 2 ls)::rwF ls
end Go.AL
namespace Go.Proofs.YtmehofoficaelaaGreatDoor
open Go Go.AL Classical
noncomputable def agK(m:List Int)(l:List Pos)(n:Int)(k:Nat):List Int:=(upto k).filter λi=>decide (Ji m (gt l i)=n)
structure GI(m:List Int)(l:List Pos)(i:Int)(ls:List (Int×List Int)):Prop where
 nd:(ls.map (·.1)).Nodup
 mem:∀n,n∈ls.map (·.1)↔∃j:Int,0<=j/\j<i/\Ji m (gt l j)=n
 prt:∀e∈ls,e.2=agK m l e.1 i.n
section
variable{m:List Int}{l:List Pos}{i:Int}{ls:List (Int×List Int)}
end
section
variable{g:gv}{l:List Pos}{nx:List (List Int)}{part:List Int}
end
structure Chn(L:Nat)(v:List gj)(b:List Bool):Prop where
 vl:v.l=L
 bl:b.l=L
 n:∀i:Int,0<=i->i<L->gt b i=aE->(gt v i).1≠2->0<=(gt v i).2/\(0<(gt v i).2->∃j:Int,0<=j/\j<L/\gt b j=aE/\(gt v j).1≠2/\(gt v j).2=(gt v i).2-1)
theorem Vl(v:List gj)(b:List Bool)(x:List Int):∀k:Nat,k<=x.l->(my v b x k).2 = -1\/∃j∈x,gt b j=aE/\(gt v j).1=1/\(gt v j).2=(my v b x k).2
 | 0,_=>.inl rfl
 | k+1,hk=>by
  have c:=Vl v b x k U;have d:gt x (k:Int)∈x:=gF U U;rw[my];split
  .rename_i h;dsimp only;rcases Int.le_total (my v b x k).2 (gt v (gt x (k:Int))).2 with a|a
   .rw[Int.max_eq_right a];exact .inr ⟨_,d,h.1,h.2,rfl⟩
   .rw[Int.max_eq_left a];exact c
  .exact c
section
variable{g:gv}{l:List Pos}{nx:List (List Int)}{part:List Int}{bu:Int}
theorem N1(o:yP g l nx part bu){v:List gj}{b:List Bool}(a:b.l=l.l){n:Int}:∀i∈uV g l nx part v b n,0<=i/\i<b.l:=λi hi=>by rw[a];exact o.prt i (aeL hi)
theorem aoC(o:yP g l nx part bu){v:List gj}{b:List Bool}(a:v.l=l.l)(c:b.l=l.l){n:Int}:(rV g l nx part v b n).l=l.l:=by unfold rV;rw[F5 _ _ _ (by rw[a,<-c];exact N1 o c),a]
theorem aoB(o:yP g l nx part bu){v:List gj}{b:List Bool}(a:b.l=l.l){n:Int}:(rB g l nx part v b n).l=l.l:=by unfold rB;rw[F5 _ _ _ (N1 o a),a]
theorem YR(o:yP g l nx part bu){v:List gj}{b:List Bool}(c:v.l=l.l)(a:b.l=l.l){n j:Int}(j0:0<=j)(j1:j<l.l):gt (rV g l nx part v b n) j=if j∈uV g l nx part v b n then N8 g l nx v b n j else gt v j:=
 CG _ _ _ (by rw[c,<-a];exact N1 o a) j j0 U
theorem R8(o:yP g l nx part bu){v:List gj}{b:List Bool}(a:b.l=l.l){n j:Int}(j0:0<=j)(j1:j<l.l):gt (rB g l nx part v b n) j=if j∈uV g l nx part v b n then aE else gt b j:=
 CG _ _ _ (N1 o a) j j0 U
theorem Yi(o:yP g l nx part bu){v:List gj}{b:List Bool}(a:v.l=l.l)(c:b.l=l.l):((yf part v b).1.l=l.l/\(yf part v b).2.l=l.l) /\
  ∀j:Int,0<=j->j<l.l->gt (yf part v b).1 j=(if j∈part/\gt b j=bs then(2,0)else gt v j)/\gt (yf part v b).2 j=(if j∈part then aE else gt b j):=by
 have hi:∀i∈part.filter (λi=>gt b i),0<=i/\i<l.l:=λi hi=>o.prt i (aO.1 hi).1;unfold yf;dsimp only;refine⟨⟨by rw[F5 _ _ _ (by rw[a];exact hi),a],by rw[F5 _ _ _ (by rw[c];exact hi),c]⟩,λj j0 j1=>?_⟩;rw[CG _ _ _ (by rw[a];exact hi) j j0 U,CG _ _ _ (by rw[c];exact hi) j j0 U];simp only[aO];refine⟨trivial,?_⟩
 by_cases h1:j∈part
 .by_cases d:gt b j=bs
  .simp[h1,d]
  .simp[h1,d]
 .simp[h1]
end
section
variable{g:gv}{l:List Pos}{nx:List (List Int)}
end
noncomputable def PU(m:List Int)(l:List Pos)(last:Int):Nat->Int
 | 0 => -1
 | i+1=>if last<Ji m (gt l (i:Int))/\(PU m l last i<0\/Ji m (gt l (i:Int))<PU m l last i)then Ji m (gt l (i:Int))else PU m l last i
@[simp] theorem axV(m:List Int)(l:List Pos)(last:Int):PU m l last 0 = -1:=rfl
def ag2{α:Type}[Inhabited α]{n:Nat}{a:α}{k:Int}(k0:0<=k)(k1:k<n):gt (b4 n a) k=a:=by unfold gt;rw[bb,fE,if_pos U];rfl
section
variable{g:gv}{l:List Pos}{m:List Int}{n k:Int}
end
set_option maxRecDepth 10000
set_option maxHeartbeats 8000000
def adL(b:Int)(l:List gj):Bool:=l.any λs=>s.1 == 8&&s.2 == b
def bec(g:gv)(a b:Int):Bool:=(gt g.kinds a).jN.any (adL b)
structure aqA(g:gv)(m:List Int):Prop where
 ok:tF g m
 le:∀a b:Int,0<=a->a<g.kinds.l->0<=b->b<g.kinds.l->bec g a b=bs->gt m b<=gt m a
def ag0{α:Type}[Inhabited α]{l a:List α}{n:Int}(h0:0<=n)(h:n<l.l):gt (l++a) n=gt l n:=by unfold gt;rw[bb,bb,ah U]
section
variable{g:gv}{l:List Pos}{nx:List (List Int)}{part:List Int}{bu:Int}
structure Agr(L:Nat)(S:Int->Prop)(v:List gj)(b:List Bool)(v':List gj)(b':List Bool):Prop where
 vl:v.l=L
 bl:b.l=L
 vl':v'.l=L
 bl':b'.l=L
 eb:∀k:Int,0<=k->k<L->S k->gt b k=gt b' k
 ev:∀k:Int,0<=k->k<L->S k->gt b k=aE->gt v k=gt v' k
structure aqB(l:List Pos)(nx:List (List Int))(part:List Int)(S:Int->Prop):Prop where
 own:∀i∈part,S i
 next:∀i∈part,∀k∈gt nx i,S k
def rep(n:Nat):List Bool:=b4 n aE
end
section
variable{g:gv}{l:List Pos}{m:List Int}
end
structure mf where
 ov:Int->Bool
 rs:Int->Int
 nx:List (List Int)
def lY(A:mf)(v:List gj)(i:Int):Prop:=
 (A.ov i=bs/\gt v i=(A.rs i,0))\/(A.ov i=aE/\(
  (∃n,1<=n/\gt v i=(1,n)/\(∃k∈gt A.nx i,gt v k=(3,n-1))/\∀k∈gt A.nx i,(gt v k).1=3->n-1<=(gt v k).2) \/
  (∃n,1<=n/\gt v i=(3,n)/\(∀k∈gt A.nx i,(gt v k).1=1/\(gt v k).2<=n-1)/\∃k∈gt A.nx i,(gt v k).2=n-1) \/
  (gt v i=(2,0)/\(∀k∈gt A.nx i,(gt v k).1≠3)/\¬(gt A.nx i≠[]/\∀k∈gt A.nx i,(gt v k).1=1))))
def lY.n0{A:mf}{v:List gj}{i:Int}(h:lY A v i):0<=(gt v i).2:=by rcases h with⟨_,e⟩|⟨_,⟨n,h,e,_⟩|⟨n,h,e,_⟩|⟨e,_⟩⟩<;>rw[e]<;>simp<;>omega
def lY.congr{A:mf}{v v':List gj}{i:Int}(h:lY A v i)(hi:gt v' i=gt v i)(b:∀k∈gt A.nx i,gt v' k=gt v k):lY A v' i:=by
 rcases h with⟨f,c2⟩|⟨f,⟨q,q1,c2,⟨k,c,e⟩,d⟩|⟨q,q1,c2,e,k,c,d⟩|⟨c2,e,d⟩⟩
 .exact .inl ⟨f,by rw[hi];exact c2⟩
 .exact .inr ⟨f,.inl ⟨q,q1,by rw[hi];exact c2,⟨k,c,by rw[b k c];exact e⟩,λp a=>by rw[b p a];exact d p a⟩⟩
 .exact .inr ⟨f,.inr (.inl ⟨q,q1,by rw[hi];exact c2,λp a=>by rw[b p a];exact e p a,k,c,by rw[b k c];exact d⟩)⟩
 .exact .inr ⟨f,.inr (.inr ⟨by rw[hi];exact c2,λp a=>by rw[b p a];exact e p a,λ⟨j,g⟩=>d ⟨j,λp a=>by rw[<-b p a];exact g p a⟩⟩)⟩
section
variable{A:mf}{S:Int->Prop}{v v':List gj}
end
noncomputable def iv(g:gv)(l:List Pos)(nx:List (List Int)):mf:=⟨λi=>(stat g (gt l i)).2,λi=>(stat g (gt l i)).1,nx⟩
structure gR where
 who:Int
 lo:Int
 hi:Int
 es:List gj
 root:List Int
 deriving Inhabited
def ke(c:gR)(i:Int):Bool:=decide (c.lo<=i/\i<c.hi)
def jH(c:gR)(i:Int):gj:=gt c.es (i-c.lo)
def sd(cl:List gR)(i:Int):List gj:=(cl.filter λc=>ke c i).map λc=>jH c i
def wF{cl:List gR}{i:Int}{r:gj}:r∈sd cl i↔∃c∈cl,ke c i=bs/\jH c i=r:=by
 unfold sd;rw[au];constructor
 .grind
 .grind
def oc:List Int->Int
 | [] => -1
 | a::r=>r.foldl min a
def pH:List Int->Int
 | [] => -1
 | a::r=>r.foldl max a
theorem foldl_min:∀(r:List Int) (a:Int),(r.foldl min a=a\/r.foldl min a∈r)/\r.foldl min a<=a/\∀y∈r,r.foldl min a<=y
 | [],a=>⟨.inl rfl,eu _,gf⟩
 | b::r,a=>by
  obtain⟨h1,e,d⟩:=foldl_min r (min a b);rw[cD];refine⟨?_,U,λy c=>?_⟩
  .grind
  .grind
theorem foldl_max:∀(r:List Int) (a:Int),(r.foldl max a=a\/r.foldl max a∈r)/\a<=r.foldl max a/\∀y∈r,y<=r.foldl max a
 | [],a=>⟨.inl rfl,eu _,gf⟩
 | b::r,a=>by
  obtain⟨h1,e,d⟩:=foldl_max r (max a b);rw[cD];refine⟨?_,U,λy c=>?_⟩
  .grind
  .grind
def xK{l:List Int}(h:l≠[]):oc l∈l:=by
 cases l with
 | nil=>exact absurd rfl h
 | cons a r=>
  rcases(foldl_min r a).1 with e|e
  .exact ay.2 (.inl e)
  .exact bh _ e
def FU{l:List Int}{y:Int}(h:y∈l):oc l<=y:=by
 cases l with
 | nil=>cases h
 | cons a r=>
  rcases ay.1 h with rfl|h
  .exact(foldl_min r y).2.1
  .exact(foldl_min r a).2.2 y h
def Bv{l:List Int}(h:l≠[]):pH l∈l:=by
 cases l with
 | nil=>exact absurd rfl h
 | cons a r=>
  rcases(foldl_max r a).1 with e|e
  .exact ay.2 (.inl e)
  .exact bh _ e
def Py{l:List Int}{y:Int}(h:y∈l):y<=pH l:=by
 cases l with
 | nil=>cases h
 | cons a r=>
  rcases ay.1 h with rfl|h
  .exact(foldl_max r y).2.1
  .exact(foldl_max r a).2.2 y h
def oB(l:List gj):Int:=oc ((l.filter λr=>decide (r.1≠2)).map λr=>r.2)
def l5(l:List gj):gj:=l.headD default
def lH(l:List gj):Bool:=l.any λr=>decide (r≠l5 l)
def Xj{l:List gj}:lH l=bs↔∃r∈l,r≠l5 l:=by simp[lH]
def Xi{l:List gj}:lH l=aE↔∀r∈l,r=l5 l:=by simp[lH]
def AR{l:List gj}(h:l≠[]):l5 l∈l:=by
 cases l with
 | nil=>exact absurd rfl h
 | cons a r=>exact List.mem_cons_self
def aiU{l:List gj}(h:∃r∈l,r.1≠2):∃r∈l,r.1≠2/\r.2=oB l:=by
 obtain⟨r,b,c⟩:=h
 have:=xK (l:=(l.filter λr=>decide (r.1≠2)).map λr=>r.2) λe=>by have:r.2∈(l.filter λr=>decide (r.1≠2)).map λr=>r.2:=au.2 ⟨r,aO.2 ⟨b,by simpa using c⟩,rfl⟩;rw[e]at this;cases this
 obtain⟨q,a,e⟩:=au.1 this;rw[aO]at a;exact⟨q,a.1,by simpa using a.2,e⟩
def ia(l:List gj)(o:Int):List Int:=(l.filter λr=>decide (r.1=o)).map λr=>r.2
def uK{l:List gj}{o n:Int}:n∈ia l o↔(o,n)∈l:=by
 unfold ia;rw[au];constructor
 .grind
 .simp_all
def abq{l:List gj}{o:Int}:(ia l o).l=l.l↔∀r∈l,r.1=o:=by unfold ia;rw[List.length_map,eI];simp
def mr(l:List gj):gj:=
 if ia l 3≠[]then(1,oc (ia l 3)+1)else if l≠[]/\(ia l 1).l=l.l then(3,pH (ia l 1)+1)else(2,0)
def PL(A:mf)(cl:List gR)(i n:Int):List gj:=(gt A.nx i).map λj=>if lH (sd cl j)=aE/\(l5 (sd cl j)).2<n then l5 (sd cl j)else(2,0)
def o3(A:mf)(cl:List gR)(i:Int)(c:gR):Bool:=
 ke c i&&(if A.ov i=bs then decide (jH c i≠(A.rs i,0))else
  if (mr (PL A cl i (oB (sd cl i)))).1≠2 then decide (jH c i≠mr (PL A cl i (oB (sd cl i))))else decide ((jH c i).1≠2/\(jH c i).2=oB (sd cl i)))
def lV(r:gj):Bool:=decide (r=(2,0)\/((r.1=1\/r.1=3)/\0<=r.2))
section
variable{A:mf}{V:List gj}{cl:List gR}{N:Int}
theorem aeP{i:Int}(c:∀r∈sd cl i,lV r=bs)(f:lH (sd cl i)=bs):∃r∈sd cl i,r.1≠2:=by
 obtain⟨r,b,g⟩:=Xj.1 f;have h0:=AR (l:=sd cl i) λe=>by rw[e]at b;cases b
 have a:=c r b;have d:=c _ h0;simp only[lV,decide_eq_true_eq]at a d;rcases a with a|a
 .grind
 .grind
theorem aqq{i:Int}(k:∀r∈sd cl i,lV r=bs)(f:lH (sd cl i)=bs):∃c∈cl,o3 A cl i c=true:=by
 have two:∀w:gj,∃c∈cl,ke c i=bs/\jH c i≠w:=λw=>by
  obtain⟨r,a,g⟩:=Xj.1 f;have h0:=AR (l:=sd cl i) λe=>by rw[e]at a;cases a
  by_cases h:r=w
  .obtain⟨c,h1,d,b⟩:=wF.1 h0;exact⟨c,h1,d,by rw[b,<-h];exactλe=>g e.symm⟩
  .obtain⟨c,h1,d,b⟩:=wF.1 a;exact⟨c,h1,d,by rw[b];exact h⟩
 unfold o3
 by_cases m:A.ov i=bs
 .simp_all
 .by_cases j:(mr (PL A cl i (oB (sd cl i)))).1≠2
  .simp_all
  .obtain⟨r,a,d,e⟩:=aiU (aeP k f);obtain⟨c,h1,b,rfl⟩:=wF.1 a;exact⟨c,h1,by rw[b,if_neg m,if_neg j];simpa using ⟨d,e⟩⟩
end
def idx(p:gR->Bool)(cl:List gR):List Int:=(upto cl.l).filter λk=>p (gt cl k)
def PI{p:gR->Bool}{cl:List gR}{k:Int}:k∈idx p cl↔(0<=k/\k<cl.l)/\p (gt cl k)=true:=by unfold idx;rw[aO,jF]
def Dm{p:gR->Bool}{cl:List gR}:idx p cl≠[]↔∃c∈cl,p c=true:=by
 constructor
 .intro h;obtain⟨k,a⟩:=dX _ h;rw[PI]at a;exact⟨_,gF a.1.1 a.1.2,a.2⟩
 .rintro⟨c,d,b⟩ h;obtain⟨k,k0,k1,rfl⟩:=xJ.1 d;have:k∈idx p cl:=PI.2 ⟨⟨k0,k1⟩,b⟩;rw[h]at this;cases this
inductive Jd where
 | v (a:Int) (l:List Int)
 | none
 | vY
 deriving DecidableEq
def B'(cl:List gR)(a i:Int):Int:=if lH (sd cl i)=bs/\(a<0\/oB (sd cl i)<oB (sd cl a))then i else a
def kW(cl:List gR)(n:Nat):Int:=(upto n).foldl (B' cl) (-1)
noncomputable def nj(A:mf)(n:Nat)(ad:gR->Bool)(cl:List gR):Jd:=
 if idx (λc => !ad c) cl≠[]then .v (-1) (idx (λc => !ad c) cl)
 else if∃i∈upto n,sd cl i = []then .vY
 else match (upto n).find? λi=>decide (idx (λc=>ke c i && !lV (jH c i)) cl≠[])with
  | some i=>.v i (idx (λc=>ke c i && !lV (jH c i)) cl)
  | Option.none=>if kW cl n<0 then .none else .v (kW cl n) (idx (o3 A cl (kW cl n)) cl)
def D0(n:Nat):upto (n+1)=upto n ++ [(n:Int)]:=by simp[upto,List.range_succ]
theorem Nz(cl:List gR):∀n:Nat,(kW cl n = -1/\∀j:Int,0<=j->j<n->lH (sd cl j)=aE) \/
  ((0<=kW cl n/\kW cl n<n)/\lH (sd cl (kW cl n))=bs/\∀j:Int,0<=j->j<n->lH (sd cl j)=bs->oB (sd cl (kW cl n))<=oB (sd cl j))
 | 0=>.inl ⟨rfl,λj h0 h1=>U⟩
 | n+1=>by
  have e:kW cl (n+1)=B' cl (kW cl n) n:=by unfold kW;rw[D0,List.foldl_append];rfl
  rw[e];generalize c:kW cl n=a;have b:=Nz cl n;rw[c]at b;unfold B'
  by_cases d:lH (sd cl n)=bs
  .grind
  .grind
section
variable{A:mf}{V:List gj}{cl:List gR}{n:Nat}{ad:gR->Bool}
theorem aaq(h:nj A n ad cl = .none):(∀c∈cl,ad c=bs)/\∀i:Int,0<=i->i<n->sd cl i≠[]/\lH (sd cl i)=false:=by
 unfold nj at h;split at h
 .cases h
 rename_i d;split at h
 .cases h
 rename_i a
 refine⟨λc a=>by
  cases e:ad c with
  | true=>rfl
  | false=>exact absurd (Dm.2 ⟨c,a,(by show(!ad c)=bs;rw[e];rfl)⟩) d,?_⟩
 split at h
 .cases h
 split at h
 .rename_i f;rcases Nz cl n with⟨_,e⟩|⟨h1,_,_⟩
  .exact λi i0 b=>⟨λh0=>a ⟨i,jF.2 ⟨i0,b⟩,h0⟩,e i i0 b⟩
  .omega
 .cases h
end
def aaV{A:mf}{v:List gj}{i:Int}(h0:∀k∈gt A.nx i,0<=(gt v k).2)(s:A.ov i=aE):lY A v i↔gt v i=mr ((gt A.nx i).map λk=>gt v k):=by
 have c:∀o p:Int,(o,p)∈((gt A.nx i).map λk=>gt v k)↔∃k∈gt A.nx i,gt v k=(o,p):=λo p=>by rw[au]
 have l:(∀r∈(gt A.nx i).map (λk=>gt v k),r.1=1)↔∀k∈gt A.nx i,(gt v k).1=1:=gf;have n:((gt A.nx i).map λk=>gt v k)≠[]↔gt A.nx i≠[]:=gf;unfold mr lY
 by_cases j:ia ((gt A.nx i).map λk=>gt v k) 3 = []
 .have y:∀k∈gt A.nx i,(gt v k).1≠3:=λk a e=>by have:(gt v k).2∈ia ((gt A.nx i).map λk=>gt v k) 3:=uK.2 ((c _ _).2 ⟨k,a,cL e rfl⟩);rw[j]at this;cases this
  rw[if_neg (λh=>h j)]
  by_cases b:gt A.nx i≠[]/\∀k∈gt A.nx i,(gt v k).1=1
  .rw[if_pos ⟨n.2 b.1,abq.2 (l.2 b.2)⟩]
   have t:ia ((gt A.nx i).map λk=>gt v k) 1≠[]:=λe=>by obtain⟨k,a⟩:=dX _ b.1;have:(gt v k).2∈ia ((gt A.nx i).map λk=>gt v k) 1:=uK.2 ((c _ _).2 ⟨k,a,cL (b.2 k a) rfl⟩);rw[e]at this;cases this
   obtain⟨q,d,f⟩:=(c _ _).1 (uK.1 (Bv t));have u:∀k∈gt A.nx i,(gt v k).2<=pH (ia ((gt A.nx i).map λk=>gt v k) 1):=λk a=>Py (uK.2 ((c _ _).2 ⟨k,a,cL (b.2 k a) rfl⟩));have g:=h0 q d;rw[f]at g;generalize pH (ia ((gt A.nx i).map λk=>gt v k) 1)=m at *;constructor
   .grind
   .intro e;exact .inr ⟨s,.inr (.inl ⟨m+1,by dsimp only at g;omega,e,λk a=>⟨b.2 k a,by have:=u k a;omega⟩,q,d,by rw[f];dsimp only;omega⟩)⟩
  .rw[if_neg (λh=>b ⟨n.1 h.1,l.1 (abq.1 h.2)⟩)];constructor
   .grind
   .grind
 .rw[if_pos j];obtain⟨q,d,f⟩:=(c _ _).1 (uK.1 (xK j));have x:∀k∈gt A.nx i,(gt v k).1=3->oc (ia ((gt A.nx i).map λk=>gt v k) 3)<=(gt v k).2:=λk a e=>FU (uK.2 ((c _ _).2 ⟨k,a,cL e rfl⟩));have g:=h0 q d;rw[f]at g;generalize oc (ia ((gt A.nx i).map λk=>gt v k) 3)=m at *;constructor
  .grind
  .intro e;exact .inr ⟨s,.inl ⟨m+1,by dsimp only at g;omega,e,⟨q,d,by rw[f];congr 1;omega⟩,λk a w=>by have:=x k a w;omega⟩⟩
def aaW{A:mf}{v:List gj}{i:Int}(a:A.ov i=bs):lY A v i↔gt v i=(A.rs i,0):=by
 constructor
 .rintro(⟨_,e⟩|⟨e,_⟩)
  .exact e
  .grind
 .exact λe=>.inl ⟨a,e⟩
section
variable{nx:List (List Int)}
end
attribute [-simp] uU Wl aaZ Wm
end Go.Proofs.YtmehofoficaelaaGreatDoor
namespace Go.Proofs.YtmehofoficaelaaGreatDoor
open Go Go.AL Classical
theorem ac6{v:List gj}{b:List Bool}{x:List Int}:∀n:Nat,n<=x.l->(∀j:Nat,j<n->gt b (gt x (j:Int))=aE/\(gt v (gt x (j:Int))).1=1)->(my v b x n).1=n
 | 0,_,_=>rfl
 | n+1,hn,h=>by rw[my,if_pos (h n U)];have:=ac6 (v:=v) (b:=b) (x:=x) n U λj a=>h j U;dsimp only;omega
theorem Vk{v:List gj}{b:List Bool}{x:List Int}:∀n:Nat,(my v b x n).1=n->∀j:Nat,j<n->gt b (gt x (j:Int))=aE/\(gt v (gt x (j:Int))).1=1
 | 0,_,j,hj=>U
 | n+1,h,j,hj=>by
  have gQ:=QP v b x n;rw[my]at h;split at h
  .rename_i a;dsimp only at h
   by_cases e:j=n
   .grind
   .exact Vk (v:=v) (b:=b) (x:=x) n U j U
  .omega
theorem QQ{v:List gj}{b:List Bool}{x:List Int}:∀n:Nat,(my v b x n).1=n->∀j:Nat,j<n->(gt v (gt x (j:Int))).2<=(my v b x n).2
 | 0,_,j,hj=>U
 | n+1,h,j,hj=>by
  have gQ:=QP v b x n;rw[my]at h ⊢;split at h
  .rename_i a;rw[if_pos a];dsimp only at h ⊢
   by_cases e:j=n
   .grind
   .have:=QQ (v:=v) (b:=b) (x:=x) n U j U;omega
  .omega
def Uj{x:List Int}{k:Int}:k∈x↔∃j:Nat,j<x.l/\gt x (j:Int)=k:=by
 rw[xJ];constructor
 .rintro⟨n,n0,n1,e⟩;exact⟨n.n,U,by rw[(U:((n.n:Nat):Int)=n)];exact e⟩
 .grind
section
variable{g:gv}{l:List Pos}{nx:List (List Int)}{part:List Int}{bu:Int}
structure FI(g:gv)(l:List Pos)(nx:List (List Int))(part:List Int)(v0:List gj)(n:Int)(v:List gj)(b:List Bool):Prop where
 vl:v.l=l.l
 bl:b.l=l.l
 out:∀k:Int,0<=k->k<l.l->k ∉ part->gt b k=aE/\gt v k=gt v0 k
 dec:∀i∈part,gt b i=aE->(0<=(gt v i).2/\(gt v i).2<n)/\(((stat g (gt l i)).2=bs/\gt v i=((stat g (gt l i)).1,0))\/((stat g (gt l i)).2=aE/\(
  (∃m,1<=m/\gt v i=(1,m)/\(∃k∈gt nx i,gt b k=aE/\gt v k=(3,m-1))/\∀k∈gt nx i,gt b k=aE->(gt v k).1=3->m-1<=(gt v k).2) \/
  (∃m,1<=m/\gt v i=(3,m)/\(∀k∈gt nx i,gt b k=aE/\(gt v k).1=1/\(gt v k).2<=m-1)/\∃k∈gt nx i,(gt v k).2=m-1))))
 DC:∀i∈part,gt b i=bs->0<n->(stat g (gt l i)).2=aE/\(∀k∈gt nx i,gt b k=aE->(gt v k).1=3->n-1<=(gt v k).2) /\
  (gt nx i≠[]->(∀k∈gt nx i,gt b k=aE/\(gt v k).1=1)->∃k∈gt nx i,n-1<=(gt v k).2)
theorem FI.step(o:yP g l nx part bu){v0:List gj}(h0:∀k:Int,0<=k->k<l.l->0<=(gt v0 k).2){n:Int}(n0:0<=n){v:List gj}{b:List Bool}(h:FI g l nx part v0 n v b):FI g l nx part v0 (n+1) (rV g l nx part v b n) (rB g l nx part v b n):=by
 have hV:=λ{k:Int} (k0:0<=k) (k1:k<l.l)=>YR o h.vl h.bl (n:=n) k0 k1;have V:=λ{k:Int} (k0:0<=k) (k1:k<l.l)=>R8 o (v:=v) h.bl (n:=n) k0 k1;have gQ:∀i∈part,∀k∈gt nx i,0<=k/\k<l.l:=λi hi k d=>(o.nxk i (o.prt i hi).1 (o.prt i hi).2).1 k d
 have T:∀k,k∈uV g l nx part v b n↔k∈part/\(rh g (gt l k) v b (gt nx k) n).2=bs/\gt b k=true:=λk=>by unfold uV Us;rw[aO,ai]
 have nE:∀k,k∈uV g l nx part v b n->(N8 g l nx v b n k).2=n:=λk d=>by
  unfold N8 rh;split
  .grind
  .split<;>rfl
 have s:∀k:Int,0<=k->k<l.l->gt b k=aE->gt (rB g l nx part v b n) k=aE/\gt (rV g l nx part v b n) k=gt v k:=λk k0 k1 e=>jZ;have N:∀k:Int,0<=k->k<l.l->gt (rB g l nx part v b n) k=aE->(gt b k=aE/\gt (rV g l nx part v b n) k=gt v k)\/(k∈uV g l nx part v b n/\(gt (rV g l nx part v b n) k).2=n):=λk k0 k1 e=>jZ
 have P:∀k:Int,0<=k->k<l.l->gt b k=aE->0<=(gt v k).2:=λk k0 k1 e=>by
  by_cases G:k∈part
  .exact(h.dec k G e).1.1
  .rw[(h.out k k0 k1 G).2];exact h0 k k0 k1
 refine⟨aoC o h.vl h.bl,aoB o h.bl,λk k0 k1 d=>?_,λi hi e=>?_,λi hi e _=>?_⟩
 .obtain⟨a,c⟩:=h.out k k0 k1 d;obtain⟨Y,c'⟩:=s k k0 k1 a;exact⟨Y,c'.trans c⟩
 .obtain⟨i0,w⟩:=o.prt i hi;rcases N i i0 w e with⟨D,W⟩|⟨B,X⟩
  .obtain⟨S,y⟩:=h.dec i hi D;rw[W];refine⟨⟨S.1,U⟩,?_⟩;rcases y with⟨K,c2⟩|⟨K,⟨m,m1,c2,⟨k,d,J,I⟩,c5⟩|⟨m,m1,c2,J,k,d,I⟩⟩
   .grind
   .grind
   .refine .inr ⟨K,.inr ⟨m,m1,c2,λq t=>?_,k,d,?_⟩⟩
    .grind
    .grind
  .obtain⟨_,r,C⟩:=(T i).1 B;refine⟨U,?_⟩;have R:gt (rV g l nx part v b n) i=(rh g (gt l i) v b (gt nx i) n).1:=by rw[hV i0 w,if_pos B];rfl
   rw[R]
   by_cases f:n=0
   .subst f;unfold rh at r ⊢;rw[if_pos rfl]at r ⊢;exact .inl ⟨r,rfl⟩
   .obtain⟨O,p2,p3⟩:=h.DC i hi C U;refine .inr ⟨O,?_⟩;unfold rh at r ⊢;rw[if_neg f]at r ⊢
    by_cases hl:Ds v b (gt nx i) n
    .rw[if_pos hl];obtain⟨k,d,J,I⟩:=hl;refine .inl ⟨n,U,rfl,⟨k,d,?_⟩,λq t M A=>?_⟩
     .grind
     .grind
    .rw[if_neg hl]at r ⊢;simp only[decide_eq_true_eq]at r;obtain⟨w0,w1,w2⟩:=r;have y:=Vk _ w1;have hg:=QQ _ w1;refine .inr ⟨n,U,rfl,λq t=>?_,?_⟩
     .obtain⟨j,u,rfl⟩:=Uj.1 t;have H:=s _ (gQ i hi _ t).1 (gQ i hi _ t).2 (y j u).1;have:=hg j u;rw[H.2];exact⟨H.1,(y j u).2,U⟩
     .rcases Vl v b (gt nx i) (gt nx i).l (Nat.le_refl _)with D|⟨q,t,q1,q2,q3⟩
      .omega
      .grind
 .obtain⟨i0,w⟩:=o.prt i hi;have Q:i ∉ uV g l nx part v b n:=λB=>jZ;rw[V i0 w,if_neg Q]at e;have p:(rh g (gt l i) v b (gt nx i) n).2=false:=jZ
  have Z:(stat g (gt l i)).2=false:=by
   by_cases f:n=0
   .unfold rh at p;rw[if_pos f]at p;exact p
   .exact(h.DC i hi e U).1
  have E:n≠0->¬Ds v b (gt nx i) n:=λf hl=>by unfold rh at p;rw[if_neg f,if_pos hl]at p;cases p
  refine⟨Z,λk d M A=>?_,λF ha=>?_⟩
  .rcases N k (gQ i hi k d).1 (gQ i hi k d).2 M with⟨L,b2⟩|⟨_,b2⟩
   .rw[b2]at A ⊢
    by_cases f:n=0
    .grind
    .have h1:=(h.DC i hi e U).2.1 k d L A;have r:(gt v k).2≠n-1:=λC=>E f ⟨k,d,L,cL A C⟩;omega
   .omega
  .by_cases hx:∃k∈gt nx i,n<=(gt (rV g l nx part v b n) k).2
   .simp_all
   .exfalso;have z:∀k∈gt nx i,gt b k=aE/\(gt v k).1=1/\(gt v k).2<n:=λk d=>jZ;have jV:0<(gt nx i).l:=ao.2 F
    by_cases f:n=0
    .have d:=gF (l:=gt nx i) (n:=0) U U;have h1:=z _ d;have r:=P _ (gQ i hi _ d).1 (gQ i hi _ d).2 h1.1;omega
    .obtain⟨k,d,h1⟩:=(h.DC i hi e U).2.2 F λk d=>⟨(z k d).1,(z k d).2.1⟩
     have w1:=ac6 (v:=v) (b:=b) (x:=gt nx i) _ (Nat.le_refl _) λj u=>by have:=z _ (Uj.2 ⟨j,u,rfl⟩);exact⟨this.1,this.2.1⟩
     have w2:(my v b (gt nx i) (gt nx i).l).2=n-1:=by
      obtain⟨j,u,rfl⟩:=Uj.1 d;have g1:=QQ _ w1 j u;rcases Vl v b (gt nx i) (gt nx i).l (Nat.le_refl _)with D|⟨q,t,_,_,q3⟩
      .grind
      .grind
     unfold rh at p;rw[if_neg f,if_neg (E f)]at p;simp only[decide_eq_false_iff_not]at p;exact p ⟨U,w1,w2⟩
end
section
variable{g:gv}{l:List Pos}{nx:List (List Int)}{part:List Int}{bu:Int}
theorem agH(o:yP g l nx part bu){v0 V:List gj}{B:List Bool}{n:Int}(n0:0<n)(j:FI g l nx part v0 n V B)
  (w:∀k:Int,0<=k->k<l.l->gt B k=aE->(gt V k).1≠2->(gt V k).2<n-1):∀i∈part,lY (iv g l nx) (yf part V B).1 i:=by
 obtain⟨_,f2⟩:=Yi o j.vl j.bl;have gQ:∀i∈part,∀k∈gt nx i,0<=k/\k<l.l:=λi hi k b=>(o.nxk i (o.prt i hi).1 (o.prt i hi).2).1 k b
 have b:∀k:Int,0<=k->k<l.l->gt B k=aE->gt (yf part V B).1 k=gt V k:=λk k0 k1 e=>by rw[(f2 k k0 k1).1,if_neg λh=>by rw[e]at h;exact absurd h.2 gf]
 have hs:∀k:Int,0<=k->k<l.l->(gt (yf part V B).1 k).1≠2->gt B k=false:=λk k0 k1 e=>by
  by_cases x:k∈part
  .by_cases z:gt B k=bs
   .rw[(f2 k k0 k1).1,if_pos ⟨x,z⟩]at e;exact absurd rfl e
   .simpa using z
  .exact(j.out k k0 k1 x).1
 intro i hi;obtain⟨i0,p⟩:=o.prt i hi
 by_cases e:gt B i=bs
 .obtain⟨D,C,A⟩:=j.DC i hi e n0;refine .inr ⟨D,.inr (.inr ⟨by rw[(f2 i i0 p).1,if_pos ⟨hi,e⟩],λk a d=>?_,λ⟨E,y⟩=>?_⟩)⟩
  .obtain⟨k0,k1⟩:=gQ i hi k a;have c:=hs k k0 k1 U;rw[b k k0 k1 c]at d;have h1:=C k a c d;have F:=w k k0 k1 c U;omega
  .obtain⟨k,a,h1⟩:=A E λk a=>by obtain⟨k0,k1⟩:=gQ i hi k a;have d:=y k a;have c:=hs k k0 k1 U;rw[b k k0 k1 c]at d;exact⟨c,d⟩
   obtain⟨k0,k1⟩:=gQ i hi k a;have d:=y k a;have c:=hs k k0 k1 U;rw[b k k0 k1 c]at d;have F:=w k k0 k1 c U;omega
 .have r:gt B i=false:=by simpa using e
  rcases(j.dec i hi r).2 with⟨t,c2⟩|⟨t,⟨m,v,c2,⟨k,a,s,u⟩,G⟩|⟨m,v,c2,s,k,a,u⟩⟩
  .exact .inl ⟨t,by rw[b i i0 p r];exact c2⟩
  .refine .inr ⟨t,.inl ⟨m,v,by rw[b i i0 p r];exact c2,⟨k,a,by rw[b k (gQ i hi k a).1 (gQ i hi k a).2 s];exact u⟩,λq f d=>?_⟩⟩;obtain⟨q0,q1⟩:=gQ i hi q f;have c:=hs q q0 q1 U;rw[b q q0 q1 c]at d ⊢;exact G q f c d
  .refine .inr ⟨t,.inr (.inl ⟨m,v,by rw[b i i0 p r];exact c2,λq f=>?_,k,a,?_⟩)⟩
   .obtain⟨d1,d2⟩:=s q f;rw[b q (gQ i hi q f).1 (gQ i hi q f).2 d1];exact d2
   .rw[b k (gQ i hi k a).1 (gQ i hi k a).2 (s k a).1];exact u
end
section
variable{g:gv}{l:List Pos}{m:List Int}
end
structure VB(A:mf)(n:Nat)(P R:List Int)(v:List gj)(lf:List Int):Prop where
 vl:v.l=n
 ll:lf.l=n
 nd:(P++R).Nodup
 qr:∀k∈P++R,0<=k/\k<n
 qi:∀k∈P++R,(gt v k).1≠0
 z:∀k:Int,0<=k->k<n->k ∉ P++R->gt v k=(0,0)
 ov:∀k:Int,0<=k->k<n->A.ov k=bs->k∈P++R/\gt v k=(A.rs k,0)
 mono:(P++R).Pairwise λa b=>(gt v a).2<=(gt v b).2
 top:∀i R',R=i::R'->∀a∈P++R,(gt v a).2<=(gt v i).2+1
 nn:∀a∈P++R,0<=(gt v a).2/\(gt v a).2<=(P++R).l
 st:∀k∈P++R,A.ov k=aE ->
  (∃m,1<=m/\gt v k=(1,m)/\(∃c∈gt A.nx k,gt v c=(3,m-1))/\∀c∈gt A.nx k,(gt v c).1=3->m-1<=(gt v c).2) \/
  (∃m,1<=m/\gt v k=(3,m)/\(∀c∈gt A.nx k,(gt v c).1=1/\(gt v c).2<=m-1)/\∃c∈gt A.nx k,(gt v c).2=m-1)
section
variable{A:mf}{n:Nat}{P R d:List Int}{v:List gj}{lf:List Int}{i k t:Int}
structure VS(A:mf)(n:Nat)(m:Int)(R:List Int)(v:List gj)(lf:List Int):Prop where
 vl:v.l=n
 ll:lf.l=n
 nd:R.Nodup
 qr:∀k,k∈R↔(0<=k/\k<m)/\A.ov k=bs
 vv:∀k:Int,0<=k->k<n->gt v k=if k∈R then(A.rs k,0)else(0,0)
 lv:∀k:Int,0<=k->k<m->gt lf k=(gt A.nx k).l
end
set_option maxRecDepth 10000
set_option maxHeartbeats 8000000
attribute [-simp] aiz
end Go.Proofs.YtmehofoficaelaaGreatDoor
namespace Go.Proofs.YtmehofoficaelaaGreatDoor
open Go Go.AL Classical
set_option maxRecDepth 10000
set_option maxHeartbeats 16000000
attribute [local simp] HF H5 tp QF
end Go.Proofs.YtmehofoficaelaaGreatDoor
namespace Go.Proofs.YtmehofoficaelaaGreatDoor
open Go Go.AL Classical
set_option maxRecDepth 10000
set_option maxHeartbeats 16000000
attribute [local simp] HF H5 tp QF
theorem uP.s{T:iL}{rf:Nat}{live:List Nat}{x:X}{s a:St}{K:ju}(hs:s=a)(h:uP T rf live x a K .mk):uP T rf live x s K .mk:=by subst hs;exact h
section
variable{g:gv}{l:List Pos}{nx:List (List Int)}{part:List Int}{bu:Int}
