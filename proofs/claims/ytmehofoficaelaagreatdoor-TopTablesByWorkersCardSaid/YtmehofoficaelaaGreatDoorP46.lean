/- 46 -/
import Derived.Test.YtmehofoficaelaaGreatDoorP45
set_option linter.all false
open And renaming intro→aE
open List renaming replicate→bf,getD_eq_getElem?_getD→dx,length→List.l
open Bool renaming false→cc,true→cp
open Int renaming toNat_of_nonneg→di,toNat→Int.n
open Option renaming some→eh
namespace Go.Proofs.YtmehofoficaelaaGreatDoor
open Go Go.AL Classical
set_option maxRecDepth 10000
set_option maxHeartbeats 32000000
def ah0(V:List gT)(h0:0<V.l):Wf T 21 [.gV,iS V] [] (Is (.b cc)):=by
 have a:(0:Int)<V.l:=U;have hV:¬V = []:=ay.1 h0;refine Yg Fg ?_;simp[Fg];refine gZ.e (0:Int) (λy=>[(0,.gV),(1,iS V),(5,.i y)]) (λy=>[]) (λy=>y=0) (λy=>0) ?_ ?_
 .simp
 rintro y rfl;simp[a,hV,h0];refine gZ.e (0:Int) (λy=>[(0,.gV),(1,iS V),(5,.i 0),(6,.b cc),(7,.i y)]) (λy=>[]) (λy=>y=0) (λy=>0) ?_ ?_
 .simp
 rintro y rfl;simp
def P0(R:List Cw):Bt R = .sl 36 (R.map iW)\/(R = []/\Bt R = .gV):=by
 unfold Bt
 by_cases h:R = []
 .exact .inr ⟨h,if_pos h⟩
 .exact .inl (if_neg h)
def ahi(R:List Cw):closed (Bt R)=true:=by
 rcases P0 R with h|⟨_,h⟩
 .rw[h];exact F0 R
 .rw[h];rfl
def ahZ(R:List Cw)(d:∀x∈R,x.ok)(f:R.l<=100)(V:List gT)(h0:0<V.l)(e:V.l<=64):Wf T 21 [Bt R,iS V] [] (Is (.b (decide (PY R V)))):=by
 rcases P0 R with h|⟨b,h⟩
 .rw[h];exact ahY R d U V e
 .rw[h,decide_eq_false]
  .exact ah0 V h0
  .intro c;obtain⟨x,a,_⟩:=c 0 U U;rw[b]at a;cases a
set_option maxHeartbeats 8000000
def ah1(l:List Int)(k:Int)(hl:l.l<=100000):Wf T 23 [dN 1 f1 l,.i k] [] (Is (.b (decide (k∈l)))):=by
 cases d:l with
 | nil=>
  rw[show dN 1 f1 [] = .gV from rfl];refine Yg Fi ?_;simp[Fi];refine gZ.e (0:Int) (λy=>[(0,.gV),(1,.i k),(5,.i y)]) (λy=>[]) (λy=>y=0) (λy=>0) ?_ ?_
  .simp
  rintro y rfl;simp
 | cons a r=>
  rw[<-d,show dN 1 f1 l=dI l by rw[d];rfl];clear d;refine Yg Fi ?_;simp[Fi];refine gZ.e (0:Int) (λy=>[(0,dI l),(1,.i k),(5,.i y)]) (λy=>[]) (λy=>(0<=y/\y<=l.l)/\k ∉ l.take y.n) (λy=>(l.l-y).n) ?_ ?_
  .simp
  rintro y ⟨⟨b,f⟩,c⟩;dsimp only at b f c ⊢
  by_cases h:y<l.l
  .have hg:=ij b h
   by_cases e:gt l y=k
   .simp[h,b,e];refine gU ?_;exact e▸hg
   .simp[h,b,e];refine gU ?_;refine LJ.e (y+1) ?_;exact⟨U,jc,by rw[jP b h];simp[c];exactλg=>e g.symm⟩
  .have:y=l.l:=by omega
   subst this;rw[bA,cY]at c;simp[c]
def ZE:cl AL.fB (bf 6 cc) = [.b cc,.b cc,.b cc,.b cc,.b cc,.b cc]:=by simp[bf,oG,AL.Qi]
structure uM(n:Nat)(P:Int->Prop)(C:List Bool):Prop where
 len:C.l=6
 lo:∀b:Nat,b<n->P b->C[b]? = eh cp
 up:∀q:Nat,n<=q->q<6->C[q]? = eh cc
def uM.imp{n:Nat}{P Q:Int->Prop}{C:List Bool}(h:uM n P C)(hi:∀b,Q b->P b):uM n Q C:=⟨h.len,λb c a=>h.lo b c (hi _ a),h.up⟩
def uM.put{n:Nat}{P:Int->Prop}{C:List Bool}(h:uM n P C){b:Int}(f:0<=b)(i:b<n)(g:n<=6):uM n (λc=>P c\/c=b) (pt C b cp):=by
 have hl:=h.len;rw[yn f U];refine⟨by rw[av];exact hl,λc d a=>?_,λq q0 q1=>?_⟩
 .rw[bI];split
  .rw[if_pos U]
  .rcases a with a|e
   .exact h.lo c d a
   .omega
 .rw[aC U];exact h.up q q0 q1
def uM.nil{n:Nat}:uM n (λ_=>False) (bf 6 cc):=⟨gP,λ_ _ h=>h.elim,λq _ h=>List.getElem?_replicate_of_lt h⟩
def ah8(g:gY)(hg:iE g)(k:Kind)(C:k∈g.kinds):Wf T 55 [.agg k.cells] [] (Ex (λB:List Bool=>.agg (cl AL.fB B)) (uM g.kinds.l λb=>k.jv.any (zP b)=cp)):=by
 have D:=hg.kinds;have n:=hg.jv k C;obtain⟨name,jv,keep⟩:=k;unfold Kind.cells;dsimp only at n ⊢
 cases o:jv with
 | nil=>
  rw[show dN 1 fP [] = .gV from rfl];refine Yg Fj ?_;simp[Fj];rw[<-ZE];refine gZ.e (0:Int) (λy=>[(2,.ptr 1 0 0),(3,.ptr 2 0 0),(9,.gV),(10,.i 0),(11,.i y)]) (λy=>[.row 140 0 [.val (.string name),.gV,.b keep],.row 136 0 (cl AL.fB (bf 6 cc)),.row 136 0 (cl AL.fB (bf 6 cc))]) (λy=>y=0) (λy=>0) ?_ ?_
  .simp
  rintro y rfl;simp;exact⟨_,rfl,uM.nil.imp λb h=>by simp at h⟩
 | cons a r=>
  rw[<-o,show dN 1 fP jv = .sl 1 (jv.map fP)by rw[o];rfl];clear o;refine Yg Fj ?_;simp[Fj];rw[<-ZE];refine gZ.e ((0,bf 6 cc):Int×List Bool) (λy=>[(2,.ptr 1 0 0),(3,.ptr 2 0 0),(9,.sl 1 (jv.map fP)),(10,.i jv.l),(11,.i y.1)]) (λy=>[.row 140 0 [.val (.string name),.sl 1 (jv.map fP),.b keep],.row 136 0 (cl AL.fB (bf 6 cc)),.row 136 0 (cl AL.fB y.2)]) (λy=>(0<=y.1/\y.1<=jv.l)/\uM g.kinds.l (λb=>(jv.take y.1.n).any (zP b)=cp) y.2) (λy=>(jv.l-y.1).n) ?_ ?_
  .exact⟨gP,uM.nil.imp λb h=>by simp at h⟩
  rintro⟨i,B⟩ ⟨⟨i0,x⟩,c⟩;dsimp only at i0 x c ⊢
  by_cases hi:i<jv.l
  .have p:=n.2 _ (ij i0 hi);obtain⟨l,hl⟩:∃l,gt jv i=l:=⟨_,rfl⟩;rw[hl]at p;have A:=p.len;simp[hi,i0,hl];refine kf hi i0 hl ?_;refine gZ.e ((0,B):Int×List Bool) (λy=>[(2,.ptr 1 0 0),(3,.ptr 2 0 0),(9,.sl 1 (jv.map fP)),(10,.i jv.l),(11,.i i),(15,iS l),(16,.i l.l),(17,.i y.1)]) (λy=>[.row 140 0 [.val (.string name),.sl 1 (jv.map fP),.b keep],.row 136 0 (cl AL.fB (bf 6 cc)),.row 136 0 (cl AL.fB y.2)]) (λy=>(0<=y.1/\y.1<=l.l)/\uM g.kinds.l (λb=>(jv.take i.n).any (zP b)=cp\/zP b (l.take y.1.n)=cp) y.2) (λy=>(l.l-y.1).n) ?_ ?_
   .exact⟨gP,c.imp λb h=>by rcases h with h|h;exact h;simp[zP]at h⟩
   clear c;rintro⟨j,B⟩ ⟨⟨j0,j1⟩,c⟩;dsimp only at j0 j1 c ⊢
   by_cases d:j<l.l
   .have w:=(p.steps _ (ij j0 d)).ok;obtain⟨q,e⟩:∃q,gt l j=q:=⟨_,rfl⟩;rw[e]at w;have m:=c.len
    have t:∀b,zP b (l.take (j+1).n)=(zP b (l.take j.n)||(q.1 == 8&&q.2 == b)):=λb=>by unfold zP;rw[Zc _ j0 d,e]
    by_cases f:q.1=8
    .have s:0<=q.2/\q.2<6:=by omega
     simp[d,j0,e,f,s.1,s.2,m];refine kf (aE d j0) (aE e f) m ?_;refine LJ.e (j+1,pt B q.2 cp) ?_;refine⟨U,jc,(c.put s.1 U U).imp λb h=>?_⟩;dsimp only at h;rw[t b,bM]at h;rcases h with h|h|h
     .exact .inl (.inl h)
     .exact .inl (.inr h)
     .simp at h;exact .inr h.2.symm
    .simp[d,j0,e,f];refine pM d j0 e f ?_;refine LJ.e (j+1,B) ?_;refine⟨U,jc,c.imp λb h=>?_⟩;dsimp only at h;rw[t b,bM]at h;rcases h with h|h|h
     .exact .inl h
     .exact .inr h
     .simp[f]at h
   .have z:=n.1;simp[d];refine oO ?_;refine LJ.e (i+1,B) ?_;refine⟨U,jc,c.imp λb h=>?_⟩;dsimp only at h;rw[Zc _ i0 hi,hl,bM]at h;rw[(U:j.n=l.l),cY];exact h
  .have m:=c.len;have v:i=jv.l:=U;subst v;rw[bA,cY]at c;have u:B.take 6=B:=af U;simp[m,u];exact⟨_,rfl,c.imp λb h=>by simpa using h⟩
set_option maxHeartbeats 16000000
def agy:cl AL.fB (bf 36 cc)=bf 36 (D.b cc):=by simp[bf,oG,AL.Qi]
structure yK(g:gY)(B:List Bool)(n:Nat):Prop where
 len:B.l=36
 dg:∀j:Nat,j<n->B[j*7]? = eh cp
 lo:∀a b:Nat,a<n->b<g.kinds.l->C4 g a b=cp->B[a*6+b]? = eh cp
 up:∀p q:Nat,p<n->g.kinds.l<=q->q<6->B[p*6+q]? = eh cc
def yK.put{g:gY}{B:List Bool}{n:Nat}(h:yK g B n){k m:Int}(k0:0<=k)(k1:k<6)(m0:0<=m)(m1:m<g.kinds.l)(i:g.kinds.l<=2):yK g (pt B (k*6+m) cp) n:=by
 have hl:=h.len
 have key:∀q:Nat,B[q]? = eh cp->(B.set (k*6+m).n cp)[q]? = eh true:=λq c=>by
  rw[bI];split
  .rename_i e;have:=(ae.1 c).1;rw[if_pos U]
  .exact c
 rw[yn U U];exact⟨by rw[av];exact hl,λj f=>key _ (h.dg j f),λa b r o l=>key _ (h.lo a b r o l),λp q d q0 q1=>by rw[aC U];exact h.up p q d q0 q1⟩
def amw{g:gY}{B C:List Bool}{i:Nat}(d:yK g B i)(f:uM g.kinds.l (λb=>C4 g i b=cp) C)(hi:i<g.kinds.l)(t:g.kinds.l<=2){R:List Bool}(n:R=(B.take (i*6)++(C++B.drop (i*6+6))).take (i*6+i)++true::(B.take (i*6)++(C++B.drop (i*6+6))).drop (i*6+i+1)) :
  yK g R (i+1):=by
 have y:=d.len;have u:=f.len;obtain⟨S,hS⟩:∃S,B.take (i*6)++(C++B.drop (i*6+6))=S:=⟨_,rfl⟩;rw[hS]at n;have s:S.l=36:=by rw[<-hS];simp;omega
 have h1:∀q,q<i*6->S[q]? = B[q]? := λq k=>by rw[<-hS,ah iz,b9 U]
 have r:∀q,q<6->S[i*6+q]? = C[q]? := λq k=>by rw[<-hS,ao iz,ah iz];congr 1;simp;omega
 have h:R=S.set (i*6+i) true:=by rw[bX,if_pos U];exact n
 have c:∀q,q≠i*6+i->R[q]? = S[q]? := λq k=>by rw[h,aC U]
 have o:R[i*6+i]? = eh true:=by rw[h,aN U]
 refine⟨by rw[h,av];exact s,λj w=>?_,λa b x m l=>?_,λp q v q0 q1=>?_⟩
 .by_cases e:j=i
  .rw[e,(U:i*7=i*6+i)];exact o
  .rw[c _ U,h1 _ U];exact d.dg j U
 .by_cases e:a=i
  .subst e
   by_cases e2:b=a
   .rw[e2];exact o
   .rw[c _ U,r _ U];exact f.lo b m l
  .rw[c _ U,h1 _ U];exact d.lo a b U m l
 .by_cases e:p=i
  .subst e;rw[c _ U,r _ U];exact f.up q q0 q1
  .rw[c _ U,h1 _ U];exact d.up p q U q0 q1
def agZ{R:List Bool}{n i:Nat}(k:R.l=6)(l:1<=n/\n<=2)(hi:i<n)(a:R[i]? = eh cp)(up:∀q,n<=q->q<6->R[q]? = eh cc) :
  1<=R.countP id/\R.countP id<=n/\∀b,b<n->b≠i->R[b]? = eh cp->2<=R.countP id:=by
 match R,k with
 | [r0,r1,r2,r3,r4,r5],_=>
  have h:=up 2 U U;have g:=up 3 U U;have f:=up 4 U U;have e:=up 5 U U;simp at h g f e;subst h g f e;rcases(U:n=1\/n=2)with rfl|rfl
  .have j:=up 1 U U;obtain rfl:i=0:=U;simp at j a;subst j a;exact⟨jo,jo,λb h1 d=>U⟩
  .rcases(U:i=0\/i=1)with rfl|rfl
   .simp at a;subst a;cases r1
    .exact⟨jo,jo,λb h1 d c=>absurd c (by rw[(U:b=1)];simp)⟩
    .exact⟨jo,jo,λb h1 d c=>jo⟩
   .simp at a;subst a;cases r0
    .exact⟨jo,jo,λb h1 d c=>absurd c (by rw[(U:b=0)];simp)⟩
    .exact⟨jo,jo,λb h1 d c=>jo⟩
def agz(l:List Bool):cl AL.fB l=l.map λx=>D.b x:=by
 unfold cl
 induction l with
 | nil=>rfl
 | cons a l b=>simp[b,AL.fB]
def Tq{l:List Bool}{j:Int}(j0:0<=j)(j1:j<l.l):∀h,(cl AL.fB l)[j.n]'h = .b (gt l j):=λh=>by simp only[agz,br];rw[jU j0 j1]
def ahU(g:gY)(hg:iE g):Wf T 15 [dG g] [] (Ex (λm:List Int=>.agg [dI m]) (yI g)):=by
 have lS:=hg.kinds;refine Yg My ?_;simp[My];refine gZ.s (s':={ env:=_,H:=[.row 43 0 [.i g.size,.sl 1 (g.next.map fI),dI g.jC,.sl 3 (g.kinds.map Kind.cells),.i g.iw,.b g.me,dN 4 Clause.cells g.clauses,.i g.blocked,.i g.oV],.row 56 0 [.gV],.row 137 0 (cl AL.fB (bf 36 cc))] }) (by rw[agy];rfl) ?_;refine gZ.e ((0,bf 36 cc):Int×List Bool) (λy=>[(1,.ptr 0 0 0),(2,.ptr 1 0 0),(3,.ptr 2 0 0),(16,.sl 3 (g.kinds.map Kind.cells)),(17,.i g.kinds.l),(18,.i y.1)]) (λy=>[.row 43 0 [.i g.size,.sl 1 (g.next.map fI),dI g.jC,.sl 3 (g.kinds.map Kind.cells),.i g.iw,.b g.me,dN 4 Clause.cells g.clauses,.i g.blocked,.i g.oV],.row 56 0 [.gV],.row 137 0 (cl AL.fB y.2)]) (λy=>(0<=y.1/\y.1<=g.kinds.l)/\yK g y.2 y.1.n) (λy=>(g.kinds.l-y.1).n) ?_ ?_
 .exact⟨gP,⟨gP,λj n=>by simp at n,λa b w=>by simp at w,λp q hp=>by simp at hp⟩⟩
 rintro⟨i,B⟩ ⟨⟨i0,E⟩,d⟩;dsimp only at i0 E d ⊢;have f:=d.len
 by_cases hi:i<g.kinds.l
 .have c:=ah8 g hg (gt g.kinds i) (ij i0 hi);simp[hi,i0];refine ko hi i0 ?_;rw[show(gt g.kinds i).cells = [.val (.string (gt g.kinds i).name),dN 1 fP (gt g.kinds i).jv,.b (gt g.kinds i).keep]from rfl]at c;refine ik.w lO ?_;refine ik.q rfl rfl c gP (λy=>gP) ?_;rintro C hC;have J:i<6:=U;have Ut:=hC.len;have u0:(cl AL.fB C).l=6:=by rw[ue,Ut]
  simp[i0,J,f,Ut,u0];refine kf (aE i0 J) (aE f Ut) u0 ?_;have hO:=amw (i:=i.n) d (hC.imp λb h=>by unfold C4 at h;rwa [di i0]at h) U U rfl;refine LJ.e (i+1,(B.take (i.n*6)++(C++B.drop (i.n*6+6))).take (i.n*6+i.n)++true::(B.take (i.n*6)++(C++B.drop (i.n*6+6))).drop (i.n*6+i.n+1)) ?_;refine⟨iv,jc,?_⟩;dsimp only;rw[(U:(i+1).n=i.n+1)];exact hO
 .have Q:i=g.kinds.l:=by omega
  subst Q;simp;refine gZ.s lO ?_;rw[bA]at d;refine gZ.e ((0,B):Int×List Bool) (λy=>[(1,.ptr 0 0 0),(2,.ptr 1 0 0),(3,.ptr 2 0 0),(34,.i g.kinds.l),(35,.i y.1)]) (λy=>[.row 43 0 [.i g.size,.sl 1 (g.next.map fI),dI g.jC,.sl 3 (g.kinds.map Kind.cells),.i g.iw,.b g.me,dN 4 Clause.cells g.clauses,.i g.blocked,.i g.oV],.row 56 0 [.gV],.row 137 0 (cl AL.fB y.2)]) (λy=>(0<=y.1/\y.1<=g.kinds.l)/\yK g y.2 g.kinds.l) (λy=>(g.kinds.l-y.1).n) ?_ ?_
  .exact⟨gP,d⟩
  clear f d;rintro⟨i,B⟩ ⟨⟨i0,E⟩,d⟩;dsimp only at i0 E d ⊢;have f:=d.len
  by_cases hi:i<g.kinds.l
  .simp[hi];refine jM hi ?_;refine gZ.e ((0,B):Int×List Bool) (λy=>[(1,.ptr 0 0 0),(2,.ptr 1 0 0),(3,.ptr 2 0 0),(34,.i g.kinds.l),(35,.i i),(39,.i g.kinds.l),(40,.i y.1)]) (λy=>[.row 43 0 [.i g.size,.sl 1 (g.next.map fI),dI g.jC,.sl 3 (g.kinds.map Kind.cells),.i g.iw,.b g.me,dN 4 Clause.cells g.clauses,.i g.blocked,.i g.oV],.row 56 0 [.gV],.row 137 0 (cl AL.fB y.2)]) (λy=>(0<=y.1/\y.1<=g.kinds.l)/\yK g y.2 g.kinds.l) (λy=>(g.kinds.l-y.1).n) ?_ ?_
   .exact⟨gP,d⟩
   clear f d;rintro⟨k,B⟩ ⟨⟨k0,k1⟩,d⟩;dsimp only at k0 k1 d ⊢;have f:=d.len
   by_cases X:k<g.kinds.l
   .have I:k<6:=by omega
    simp[X,k0,I,f];refine pM X k0 I f ?_;obtain⟨R,s⟩:∃R,(B.drop (k.n*6)).take 6=R:=⟨_,rfl⟩;have t:R.l=6:=by rw[<-s];simp;omega
    have O:∀q:Int,(g.kinds.l:Int)<=q->q<6->gt R q=false:=λq q0 q1=>by have:=d.up k.n q.n U U U;unfold gt;rw[dx,<-s,b9 U,aD,this];rfl
    rw[s];clear s;refine gZ.e ((0,B):Int×List Bool) (λy=>[(1,.ptr 0 0 0),(2,.ptr 1 0 0),(3,.ptr 2 0 0),(6,.i k),(34,.i g.kinds.l),(35,.i i),(39,.i g.kinds.l),(40,.i k),(45,.agg (cl AL.fB R)),(46,.i y.1)]) (λy=>[.row 43 0 [.i g.size,.sl 1 (g.next.map fI),dI g.jC,.sl 3 (g.kinds.map Kind.cells),.i g.iw,.b g.me,dN 4 Clause.cells g.clauses,.i g.blocked,.i g.oV],.row 56 0 [.gV],.row 137 0 (cl AL.fB y.2)]) (λy=>(0<=y.1/\y.1<=6)/\yK g y.2 g.kinds.l) (λy=>(6-y.1).n) ?_ ?_
    .exact⟨gP,d⟩
    clear f d;rintro⟨j,B⟩ ⟨⟨j0,j1⟩,d⟩;dsimp only at j0 j1 d ⊢;have f:=d.len
    by_cases n:j<6
    .have o:j<(R.l:Int):=by omega
     have v:=Tq j0 o;simp[n,j0,o,t,f,v];refine kf (aE n j0) (aE o t) (aE f v) ?_;obtain⟨b,r⟩:∃b,gt R j=b:=⟨_,rfl⟩;obtain⟨S,hS⟩:∃S,(B.drop (j.n*6)).take 6=S:=⟨_,rfl⟩;have A:S.l=6:=by rw[<-hS];simp;omega
     have Z:b=cp->∀q:Int,(g.kinds.l:Int)<=q->q<6->gt S q=false:=λxa q q0 q1=>by
      have U9:j<g.kinds.l:=by
       by_cases h:j<g.kinds.l
       .exact h
       .have:=O j U n;rw[r,xa]at this;cases this
      have:=d.up j.n q.n U U U;unfold gt;rw[dx,<-hS,b9 U,aD,this];rfl
     rw[hS,r];clear hS r;refine gZ.e ((0,B):Int×List Bool) (λy=>[(1,.ptr 0 0 0),(2,.ptr 1 0 0),(3,.ptr 2 0 0),(6,.i k),(8,.b b),(34,.i g.kinds.l),(35,.i i),(39,.i g.kinds.l),(40,.i k),(45,.agg (cl AL.fB R)),(46,.i j),(52,.agg (cl AL.fB S)),(53,.i y.1)]) (λy=>[.row 43 0 [.i g.size,.sl 1 (g.next.map fI),dI g.jC,.sl 3 (g.kinds.map Kind.cells),.i g.iw,.b g.me,dN 4 Clause.cells g.clauses,.i g.blocked,.i g.oV],.row 56 0 [.gV],.row 137 0 (cl AL.fB y.2)]) (λy=>(0<=y.1/\y.1<=6)/\yK g y.2 g.kinds.l) (λy=>(6-y.1).n) ?_ ?_
     .exact⟨gP,d⟩
     clear f d;rintro⟨m,B⟩ ⟨⟨m0,m1⟩,d⟩;dsimp only at m0 m1 d ⊢;have f:=d.len
     by_cases u:m<6
     .have z:m<(S.l:Int):=by omega
      have x:=Tq m0 z;obtain⟨c,hc⟩:∃c,gt S m=c:=⟨_,rfl⟩;rw[hc]at x
      have uj:B.take (k.n*6+m.n)++true::B.drop (k.n*6+m.n+1)=pt B (k*6+m) true:=by unfold pt;rw[(U:(k*6+m).n=k.n*6+m.n)]
      cases b
      .simp[u,m0,z,A,x,f];refine kf (aE u m0) (aE z A) (aE x f) ?_;refine LJ.e (m+1,B) ?_;exact⟨U,jc,d⟩
      .cases c
       .simp[u,m0,z,A,x,f];refine kf (aE u m0) (aE z A) (aE x f) ?_;refine LJ.e (m+1,B) ?_;exact⟨U,jc,d⟩
       .have W:m<g.kinds.l:=by
         by_cases h:m<g.kinds.l
         .exact h
         .have:=Z rfl m U u;rw[hc]at this;cases this
        have hP:=d.put k0 I m0 W lS.2;simp[u,m0,z,A,x,f,k0,I];refine pM (aE u m0) (aE z A) (aE x f) (aE k0 I) ?_;refine LJ.i (m+1,pt B (k*6+m) cp) (by first|rfl|simp[uj]) (by first|rfl|simp[uj]) rfl rfl ?_;exact⟨U,jc,hP⟩
     .simp[u];refine oO ?_;refine LJ.e (j+1,B) ?_;exact⟨U,jc,d⟩
    .simp[n];refine oO ?_;refine LJ.e (k+1,B) ?_;exact⟨U,jc,d⟩
   .simp[X];refine oO ?_;refine LJ.e (i+1,B) ?_;exact⟨U,jc,d⟩
  .have Q:i=g.kinds.l:=by omega
   subst Q;simp;refine oO ?_;refine gZ.s lO ?_;refine gZ.e ((0,bf g.kinds.l 0):Int×List Int) (λy=>[(2,.ptr 1 0 0),(3,.ptr 2 0 0),(11,.ptr 4 0 0),(76,.i g.kinds.l),(77,.i y.1)]) (λy=>[.row 43 0 [.i g.size,.sl 1 (g.next.map fI),dI g.jC,.sl 3 (g.kinds.map Kind.cells),.i g.iw,.b g.me,dN 4 Clause.cells g.clauses,.i g.blocked,.i g.oV],.row 56 0 [.gV],.row 137 0 (cl AL.fB B),.row 3 0 (cl f1 y.2),.row 56 0 [.gR 3 0 1 0 g.kinds.l]]) (λy=>(0<=y.1/\y.1<=g.kinds.l)/\y.2.l=g.kinds.l/\(∀j:Int,0<=j->j<y.1->1<=gt y.2 j/\gt y.2 j<=g.kinds.l/\∀b:Int,0<=b->b<g.kinds.l->b≠j->C4 g j b=cp->2<=gt y.2 j)/\∀j:Int,y.1<=j->j<g.kinds.l->gt y.2 j=0) (λy=>(g.kinds.l-y.1).n) ?_ ?_
   .refine⟨gP,gP,λj j0 j1=>by dsimp only at j1;omega,λj j0 j1=>?_⟩;dsimp only at j0 ⊢;rw[jU j0 (by simpa using j1)];simp
   rintro⟨i,M⟩ ⟨⟨i0,E⟩,hM,G,hG⟩;dsimp only at i0 E hM G hG ⊢
   by_cases hi:i<g.kinds.l
   .have J:i<6:=by omega
    simp[hi,i0,J,f];refine pM hi i0 J f ?_
    have F:((B.drop (i.n*6)).take 6)[i.n]? = eh true:=by rw[b9 U,aD,(U:i.n*6+i.n=i.n*7)];exact d.dg i.n U
    have O:∀q:Nat,g.kinds.l<=q->q<6->((B.drop (i.n*6)).take 6)[q]? = eh false:=λq q0 q1=>by rw[b9 U,aD];exact d.up i.n q U q0 q1
    have u9:∀b:Nat,b<g.kinds.l->C4 g i b=cp->((B.drop (i.n*6)).take 6)[b]? = eh true:=λb K r=>by rw[b9 U,aD];exact d.lo i.n b U K (by rw[di i0];exact r)
    obtain⟨R,s⟩:∃R,(B.drop (i.n*6)).take 6=R:=⟨_,rfl⟩;have t:R.l=6:=by rw[<-s];simp;omega
    rw[s]at F ⊢;simp only[s]at O u9;clear s
    have Gm:pt M i 0=M:=by rw[yn i0 U,<-hG i (cI i) hi,jU i0 U];exact dW _
    have D:∀a:Int,(pt M i a).l=g.kinds.l:=λa=>by rw[jy i0 U,hM]
    have N:∀a:Int,gt (pt M i a) i=a:=λa=>Dx i0 U
    have pF:∀a b:Int,pt (pt M i a) i b=pt M i b:=λa b=>by rw[yn i0 (by rw[D];exact hi),yn i0 U,yn i0 U,List.set_set]
    refine gZ.e ((0,0):Int×Int) (λy=>[(2,.ptr 1 0 0),(3,.ptr 2 0 0),(11,.ptr 4 0 0),(12,.i i),(76,.i g.kinds.l),(77,.i i),(82,.agg (cl AL.fB R)),(83,.i y.1)]) (λy=>[.row 43 0 [.i g.size,.sl 1 (g.next.map fI),dI g.jC,.sl 3 (g.kinds.map Kind.cells),.i g.iw,.b g.me,dN 4 Clause.cells g.clauses,.i g.blocked,.i g.oV],.row 56 0 [.gV],.row 137 0 (cl AL.fB B),.row 3 0 (cl f1 (pt M i y.2)),.row 56 0 [.gR 3 0 1 0 g.kinds.l]]) (λy=>(0<=y.1/\y.1<=6)/\y.2=((R.take y.1.n).countP id:Nat)) (λy=>(6-y.1).n) ?_ ?_
    .simp
    rintro⟨j,a⟩ ⟨⟨j0,j1⟩,w⟩;dsimp only at j0 j1 w ⊢
    by_cases n:j<6
    .have o:j<(R.l:Int):=by omega
     have v:=Tq j0 o
     have c4:a<=6:=by have:=db (p:=id) (l:=R.take j.n);rw[aM]at this;omega
     have V:(((R.take (j+1).n).countP id:Nat):Int)=a+if gt R j=cp then 1 else 0:=by rw[jP j0 o,dQ,w];cases gt R j<;>simp
     obtain⟨b,r⟩:∃b,gt R j=b:=⟨_,rfl⟩;rw[r]at v V;have P:i<((pt M i a).l:Int):=by rw[D];exact hi
     have oa:∀h,(cl f1 (pt M i a))[i.n]'h = .i a:=λh=>by simp only[yS,br];rw[<-jU i0 P,N]
     cases b
     .simp[n,j0,o,t,v];refine kf (aE n j0) (aE o t) v ?_;refine LJ.e (j+1,a) ?_;exact⟨U,jc,by rw[V];simp⟩
     .simp[n,j0,o,t,v,hi,i0,D,P,N,pF,oa];refine pM (aE n (aE j0 o)) (aE t (aE v hi)) (aE i0 (aE D P)) (aE N (aE pF oa)) ?_;refine LJ.e (j+1,a+1) ?_;exact⟨U,jc,by rw[V];simp⟩
    .have Y:j=6:=by omega
     subst Y
     have h1:1<=a/\a<=g.kinds.l/\∀b:Int,0<=b->b<g.kinds.l->b≠i->C4 g i b=cp->2<=a:=by rw[show(6:Int).n=6 from rfl,af U]at w;obtain⟨c1,c2,c3⟩:=agZ t lS U F O;refine oO (λb L K iU r=>?_);have:=c3 b.n U U (u9 b.n U (by rw[di L];exact r));omega
     simp;refine oO ?_;refine LJ.e (i+1,pt M i a) ?_;refine⟨iv,jc,D a,λq q0 q1=>?_,λq q0 q1=>?_⟩
     .dsimp only at q1 ⊢
      by_cases e:q=i
      .rw[e,N];exact h1
      .rw[Dy i0 U q0 e];exact G q q0 U
     .dsimp only at q0 ⊢;rw[Dy i0 U U U];exact hG q U q1
   .simp[hi];refine⟨M,by rw[<-hM];simp,⟨hM,λa w=>?_⟩,λa b a0 a1 L K uk=>?_⟩
    .obtain⟨q,q0,q1,rfl⟩:=th.1 w;have:=G q q0 U;exact⟨this.1,U⟩
    .by_cases e:b=a
     .rw[e];exact cI _
     .have h1:=(G a a0 U).2.2 b L K e uk;have h2:=(G b L U).2.1;omega
end Go.Proofs.YtmehofoficaelaaGreatDoor
namespace Go.Proofs.YtmehofoficaelaaGreatDoor
open Go Go.AL
set_option maxRecDepth 100000
def zl:Ev T (.call 45 [(.i 3)] []) (lP [((.agg [(.i 3),(.sl 1 [[(.sl 1 [[(.i 1)],[(.i 2)],[(.i (-1))]])],[(.sl 1 [[(.i (-1))],[(.i 0)],[(.i 1)]])]]),(.sl 1 [[(.i 1)],[(.i 0)]]),(.sl 3 [[(.val (.string ⟨#[97]⟩)),(.sl 1 [[(.sl 2 [[(.i 1),(.i 0)],[(.i 3),(.i 0)]])],[(.sl 2 [[(.i 1),(.i 0)],[(.i 4),(.i 0)],[(.i 6),(.i 0)]])]]),(.b cc)]]),(.i 0),(.b cc),.gV,(.i 3),(.i 2)]),[])]):=
 qc (k:=60) (.nil _) ia
def Az:Ev T (.call 47 [(.i 3)] []) (lP [((.agg [(.sl 1 [[(.i 1)],[(.i 0)],[(.i 2)]]),(.sl 1 [[(.i 0)]]),(.sl 1 [[(.i 0)]]),(.i 0),(.i 0)]),[])]):=
 qc (k:=60) (.cons zl (.nil _)) ia
def Cm:Ev T (.call 94 [(.agg [(.i 3),(.sl 1 [[(.sl 1 [[(.i 1)],[(.i 2)],[(.i (-1))]])],[(.sl 1 [[(.i (-1))],[(.i 0)],[(.i 1)]])]]),(.sl 1 [[(.i 1)],[(.i 0)]]),(.sl 3 [[(.val (.string ⟨#[97]⟩)),(.sl 1 [[(.sl 2 [[(.i 1),(.i 0)],[(.i 3),(.i 0)]])],[(.sl 2 [[(.i 1),(.i 0)],[(.i 4),(.i 0)],[(.i 6),(.i 0)]])]]),(.b cc)]]),(.i 0),(.b cc),.gV,(.i 3),(.i 2)]),(.agg [(.sl 1 [[(.i 1)],[(.i 0)],[(.i 2)]]),(.sl 1 [[(.i 0)]]),(.sl 1 [[(.i 0)]]),(.i 0),(.i 0)])] []) (lP [((.sl 5 [[(.sl 1 [[(.i 0)],[(.i 1)],[(.i 2)]]),(.sl 1 [[(.i 0)]]),(.sl 1 [[(.i 0)]]),(.i 0),(.i 1)]]),[])]):=
 qc (k:=60) (.cons zl (.cons Az (.nil _))) ia
def Eo:Ev T (.call 94 [(.agg [(.i 3),(.sl 1 [[(.sl 1 [[(.i 1)],[(.i 2)],[(.i (-1))]])],[(.sl 1 [[(.i (-1))],[(.i 0)],[(.i 1)]])]]),(.sl 1 [[(.i 1)],[(.i 0)]]),(.sl 3 [[(.val (.string ⟨#[97]⟩)),(.sl 1 [[(.sl 2 [[(.i 1),(.i 0)],[(.i 3),(.i 0)]])],[(.sl 2 [[(.i 1),(.i 0)],[(.i 4),(.i 0)],[(.i 6),(.i 0)]])]]),(.b cc)]]),(.i 0),(.b cc),.gV,(.i 3),(.i 2)]),(.agg [(.sl 1 [[(.i 0)],[(.i 1)],[(.i 2)]]),(.sl 1 [[(.i 0)]]),(.sl 1 [[(.i 0)]]),(.i 0),(.i 1)])] []) (lP [((.sl 5 [[(.sl 1 [[(.i 0)],[(.i 2)],[(.i 0)]]),(.sl 1 [[(.i 0)]]),(.sl 1 [[(.i 0)]]),(.i 0),(.i 0)]]),[])]):=
 qc (k:=60) (.cons zl (.cons Az (.cons Cm (.nil _)))) ia
def G8:Ev T (.call 94 [(.agg [(.i 3),(.sl 1 [[(.sl 1 [[(.i 1)],[(.i 2)],[(.i (-1))]])],[(.sl 1 [[(.i (-1))],[(.i 0)],[(.i 1)]])]]),(.sl 1 [[(.i 1)],[(.i 0)]]),(.sl 3 [[(.val (.string ⟨#[97]⟩)),(.sl 1 [[(.sl 2 [[(.i 1),(.i 0)],[(.i 3),(.i 0)]])],[(.sl 2 [[(.i 1),(.i 0)],[(.i 4),(.i 0)],[(.i 6),(.i 0)]])]]),(.b cc)]]),(.i 0),(.b cc),.gV,(.i 3),(.i 2)]),(.agg [(.sl 1 [[(.i 0)],[(.i 2)],[(.i 0)]]),(.sl 1 [[(.i 0)]]),(.sl 1 [[(.i 0)]]),(.i 0),(.i 0)])] []) (lP [(.gV,[])]):=
 qc (k:=60) (.cons zl (.cons Az (.cons Cm (.cons Eo (.nil _))))) ia
def K2:Ev T (.call 46 [(.agg [(.i 3),(.sl 1 [[(.sl 1 [[(.i 1)],[(.i 2)],[(.i (-1))]])],[(.sl 1 [[(.i (-1))],[(.i 0)],[(.i 1)]])]]),(.sl 1 [[(.i 1)],[(.i 0)]]),(.sl 3 [[(.val (.string ⟨#[97]⟩)),(.sl 1 [[(.sl 2 [[(.i 1),(.i 0)],[(.i 3),(.i 0)]])],[(.sl 2 [[(.i 1),(.i 0)],[(.i 4),(.i 0)],[(.i 6),(.i 0)]])]]),(.b cc)]]),(.i 0),(.b cc),.gV,(.i 3),(.i 2)]),(.agg [(.sl 1 [[(.i 1)],[(.i 0)],[(.i 2)]]),(.sl 1 [[(.i 0)]]),(.sl 1 [[(.i 0)]]),(.i 0),(.i 0)])] []) (lP [((.tup [(.sl 5 [[(.sl 1 [[(.i 0)],[(.i 1)],[(.i 2)]]),(.sl 1 [[(.i 0)]]),(.sl 1 [[(.i 0)]]),(.i 0),(.i 1)],[(.sl 1 [[(.i 0)],[(.i 2)],[(.i 0)]]),(.sl 1 [[(.i 0)]]),(.sl 1 [[(.i 0)]]),(.i 0),(.i 0)],[(.sl 1 [[(.i 1)],[(.i 0)],[(.i 2)]]),(.sl 1 [[(.i 0)]]),(.sl 1 [[(.i 0)]]),(.i 0),(.i 0)]]),(.i 0)]),[])]):=
 qc (k:=60) (.cons zl (.cons Az (.cons Cm (.cons Eo (.cons G8 (.nil _)))))) ia
def Rz:Ev T (.call 15 [(.agg [(.i 3),(.sl 1 [[(.sl 1 [[(.i 1)],[(.i 2)],[(.i (-1))]])],[(.sl 1 [[(.i (-1))],[(.i 0)],[(.i 1)]])]]),(.sl 1 [[(.i 1)],[(.i 0)]]),(.sl 3 [[(.val (.string ⟨#[97]⟩)),(.sl 1 [[(.sl 2 [[(.i 1),(.i 0)],[(.i 3),(.i 0)]])],[(.sl 2 [[(.i 1),(.i 0)],[(.i 4),(.i 0)],[(.i 6),(.i 0)]])]]),(.b cc)]]),(.i 0),(.b cc),.gV,(.i 3),(.i 2)])] []) (lP [((.agg [(.sl 1 [[(.i 1)]])]),[])]):=
 qc (k:=60) (.cons zl (.cons Az (.cons Cm (.cons Eo (.cons G8 (.cons K2 (.nil _))))))) ia
def VZ:Ev T (.call 110 [(.agg [(.i 3),(.sl 1 [[(.sl 1 [[(.i 1)],[(.i 2)],[(.i (-1))]])],[(.sl 1 [[(.i (-1))],[(.i 0)],[(.i 1)]])]]),(.sl 1 [[(.i 1)],[(.i 0)]]),(.sl 3 [[(.val (.string ⟨#[97]⟩)),(.sl 1 [[(.sl 2 [[(.i 1),(.i 0)],[(.i 3),(.i 0)]])],[(.sl 2 [[(.i 1),(.i 0)],[(.i 4),(.i 0)],[(.i 6),(.i 0)]])]]),(.b cc)]]),(.i 0),(.b cc),.gV,(.i 3),(.i 2)])] []) (lP [((.b cp),[])]):=
 qc (k:=60) (.cons zl (.cons Az (.cons Cm (.cons Eo (.cons G8 (.cons K2 (.cons Rz (.nil _)))))))) ia
def kT8:Ev T (.call 14 [(.agg [(.i 3),(.sl 1 [[(.sl 1 [[(.i 1)],[(.i 2)],[(.i (-1))]])],[(.sl 1 [[(.i (-1))],[(.i 0)],[(.i 1)]])]]),(.sl 1 [[(.i 1)],[(.i 0)]]),(.sl 3 [[(.val (.string ⟨#[97]⟩)),(.sl 1 [[(.sl 2 [[(.i 1),(.i 0)],[(.i 3),(.i 0)]])],[(.sl 2 [[(.i 1),(.i 0)],[(.i 4),(.i 0)],[(.i 6),(.i 0)]])]]),(.b cc)]]),(.i 0),(.b cc),.gV,(.i 3),(.i 2)]),(.agg [(.sl 1 [[(.i 1)]])]),(.sl 5 [[(.sl 1 [[(.i 0)],[(.i 1)],[(.i 2)]]),(.sl 1 [[(.i 0)]]),(.sl 1 [[(.i 0)]]),(.i 0),(.i 1)],[(.sl 1 [[(.i 0)],[(.i 2)],[(.i 0)]]),(.sl 1 [[(.i 0)]]),(.sl 1 [[(.i 0)]]),(.i 0),(.i 0)],[(.sl 1 [[(.i 1)],[(.i 0)],[(.i 2)]]),(.sl 1 [[(.i 0)]]),(.sl 1 [[(.i 0)]]),(.i 0),(.i 0)]]),(.i 2)] []) (lP [((.tup [(.sl 2 [[(.i 1),(.i 1)],[(.i 3),(.i 0)],[(.i 3),(.i 2)]]),(.i 6),(.i 0)]),[])]):=
 qc (k:=60) (.cons zl (.cons Az (.cons Cm (.cons Eo (.cons G8 (.cons K2 (.cons Rz (.cons VZ (.nil _))))))))) ia
def zT0:lN [(1,1),(3,0),(3,2)] = [230,94,173,98,131,117,62,198,18,110,46,86,180,4,199,32,214,0,110,9,176,199,77,209,30,199,37,123,227,206,189,60]:=by rw[lN,ql];kernel_rfl
def kT9:Ev T (.call 49 [(.sl 2 [[(.i 1),(.i 1)],[(.i 3),(.i 0)],[(.i 3),(.i 2)]])] []) (lP [((.agg [(.val (.int .u8 (230))),(.val (.int .u8 (94))),(.val (.int .u8 (173))),(.val (.int .u8 (98))),(.val (.int .u8 (131))),(.val (.int .u8 (117))),(.val (.int .u8 (62))),(.val (.int .u8 (198))),(.val (.int .u8 (18))),(.val (.int .u8 (110))),(.val (.int .u8 (46))),(.val (.int .u8 (86))),(.val (.int .u8 (180))),(.val (.int .u8 (4))),(.val (.int .u8 (199))),(.val (.int .u8 (32))),(.val (.int .u8 (214))),(.val (.int .u8 (0))),(.val (.int .u8 (110))),(.val (.int .u8 (9))),(.val (.int .u8 (176))),(.val (.int .u8 (199))),(.val (.int .u8 (77))),(.val (.int .u8 (209))),(.val (.int .u8 (30))),(.val (.int .u8 (199))),(.val (.int .u8 (37))),(.val (.int .u8 (123))),(.val (.int .u8 (227))),(.val (.int .u8 (206))),(.val (.int .u8 (189))),(.val (.int .u8 (60)))]),[])]):=
 Qf [(1,1),(3,0),(3,2)] [230,94,173,98,131,117,62,198,18,110,46,86,180,4,199,32,214,0,110,9,176,199,77,209,30,199,37,123,227,206,189,60] (by simp[iS]) rfl zT0 gP gP
def alf:Ev T (.call 48 [(.agg [(.i 0),(.i 0),(.i 3),(.sl 2 [[(.i 1),(.i 1)],[(.i 3),(.i 0)],[(.i 3),(.i 2)]]),(.val (.int .u8 (230))),(.val (.int .u8 (94))),(.val (.int .u8 (173))),(.val (.int .u8 (98))),(.val (.int .u8 (131))),(.val (.int .u8 (117))),(.val (.int .u8 (62))),(.val (.int .u8 (198))),(.val (.int .u8 (18))),(.val (.int .u8 (110))),(.val (.int .u8 (46))),(.val (.int .u8 (86))),(.val (.int .u8 (180))),(.val (.int .u8 (4))),(.val (.int .u8 (199))),(.val (.int .u8 (32))),(.val (.int .u8 (214))),(.val (.int .u8 (0))),(.val (.int .u8 (110))),(.val (.int .u8 (9))),(.val (.int .u8 (176))),(.val (.int .u8 (199))),(.val (.int .u8 (77))),(.val (.int .u8 (209))),(.val (.int .u8 (30))),(.val (.int .u8 (199))),(.val (.int .u8 (37))),(.val (.int .u8 (123))),(.val (.int .u8 (227))),(.val (.int .u8 (206))),(.val (.int .u8 (189))),(.val (.int .u8 (60)))])] []) (lP [((.b cp),[])]):=
 qc (k:=60) (.cons zl (.cons Az (.cons Cm (.cons Eo (.cons G8 (.cons K2 (.cons Rz (.cons VZ (.cons kT8 (.cons kT9 (.nil _))))))))))) ia
def alg:Ev T (.call 12 [] []) (lP [((.b cp),[])]):=
 qc (k:=60) (.cons zl (.cons Az (.cons Cm (.cons Eo (.cons G8 (.cons K2 (.cons Rz (.cons VZ (.cons kT8 (.cons kT9 (.cons alf (.nil _)))))))))))) ia
end Go.Proofs.YtmehofoficaelaaGreatDoor
namespace Go.Proofs.YtmehofoficaelaaGreatDoor
open Go Go.AL Classical
set_option maxRecDepth 10000
set_option maxHeartbeats 32000000
def ahT:Wf T 12 [] [] (Is (.b cp)):=by refine Ev.mono alg λr a=>?_;obtain⟨x,b,a⟩:=a;rw[List.mem_singleton]at b;subst b;exact⟨_,_,a,rfl,rfl⟩
def alD(R:List Cw)(H:gQ):od .slice (Bt R) H=eh (.i R.l):=by
 rcases P0 R with h|⟨a,h⟩
 .rw[h];simp
 .rw[h,a];rfl
def ahS(b1:Wf T 12 [] [] (Is (.b cp)))(x:sw)(f:Ik x)(ws:List B5)(VP:∀y∈ws,y.ok)(a b:Int)(ha:0<=a/\a<256)(hb:0<=b/\b<256) :
  Wf T 3 [.agg x.cells,.sl 5 (ws.map f5),.agg [.val (.int .u8 a),.val (.int .u8 b)]] [] (Is (.b cp)):=by
 have O:x.cells.l=31:=by simp[sw.cells,Raw.cells,f.len]
 have VQ:iB x.cells=true:=by have:=ZO x;simpa using this
 have o9:=aiX x f;generalize x.cells=xs at *;obtain⟨X,rfl⟩:=aaC VQ;rw[ue,fD]at O;have sK:X.take 31=X:=af U;have E:IntKind.i64.wrap a=a:=qo jc;have vo:iu a 9=a % 9:=kK ha.1;have h':0<=a % 9:=bZ _ U;have g9:a % 9<9:=bR _ U;refine Yg Mw ?_;simp[Mw,O,sK];refine Yc (b1) ?_;simp;refine ko O sK ?_;simp[O,sK];refine ik.q rfl rfl o9 gP (λy=>by obtain⟨g,p,b,l⟩:=y;cases b<;>simp[iB]) ?_;rintro⟨g,p,bb,l⟩ ⟨hg,hp,iD⟩;cases bb
 .simp
 dsimp only at hg hp iD;have DQ:=(iD rfl).1;have Uo:=(iD rfl).2;have h:=DQ.c2;have h0:=DQ.len.1;have g5:=DQ.len.2;have iG:=λi i0 d=>(wI h (i:=i) i0 d).2;have b':=ahU g hg;simp;refine gU ?_;refine Yv b' λm hm=>?_;have cT:=ai7 g hg l h h0 m hm.ok (1+a % 9) jc;have K:=al3 hg hm h (bu:=1+a % 9) jc;have UI:=(amg (m:=m) (n:=1+a % 9) hg h jc).1;obtain⟨tc,F⟩:∃tc,(zr g l m (1+a % 9)).1=tc:=⟨_,rfl⟩;obtain⟨V,hV⟩:∃V,(zr g l m (1+a % 9)).2.1=V:=⟨_,rfl⟩;rw[hV]at cT K UI;rw[F]at cT;clear F hV;simp[E,vo];refine ko E vo ?_;refine Yt cT ?_;simp;refine gU ?_;refine Yq (f29 g hg l h h0) λc hy=>?_;obtain⟨b4,b3⟩:=hy;obtain rfl:=alN h b4 UI b3 K
 have JW:∀k:Int,0<=k->k<c.l->0<=(gt c k).2/\(gt c k).2<=4000:=λk k0 k1=>by have:=alM (A:=jR g l (iq g l)) (v:=c) (n:=l.l) iG K (i:=k) k0 U;omega
 have a6:∀r∈c,r.2<=4000:=λr hr=>by obtain⟨k,k0,k1,rfl⟩:=th.1 hr;exact(JW k k0 k1).2
 have J:IL (jR g l (iq g l)) l.l c:=⟨UI,iG,K,λi i0 d=>kE.mJ (λo=>aeV hg o) (K i i0 d)⟩;have I:0<c.l:=U;have M:c.l<=64:=U;have Ti:=ai2 c U;simp;refine gU ?_;refine Yc Ti ?_;simp;refine gU ?_;have cS:=ahV ws VP
 have VO:∀w∈(ws.take 8).map B5.wk,w.ok:=λw hw=>by obtain⟨x,_,rfl⟩:=aj.1 hw;exact aub _
 have vu:((ws.take 8).map B5.wk).l<=8:=iz;obtain⟨S,hS⟩:∃S,(ws.take 8).map B5.wk=S:=⟨_,rfl⟩;rw[hS]at VO vu cS;refine Yc (cS) ?_;simp;have D:IntKind.i64.wrap b=b:=qo jc;have As:iu b 4=b % 4:=kK hb.1;have B3:0<=b % 4:=bZ _ U;have wj:b % 4<4:=bR _ U;obtain⟨k,hk⟩:∃k,1+b % 4=k:=⟨_,rfl⟩;have Q1:1<=k:=U;have a4:k<=4000:=U;refine gZ.s lO ?_;refine gZ.e (0:Int) (λy=>[(5,.ptr 1 0 0),(7,.b cp),(8,.ptr 2 0 0),(9,iS c),(12,iS c),(14,.sl 5 (S.map qv)),(15,.i y)]) (λy=>[.row 32 0 (cl fC X),.row 34 0 [.val (.int .u8 a),.val (.int .u8 b)],.row 49 0 (g.cells++(p.cells ++ [iZ l,.b cp]))]) (λy=>0<=y/\y<=6) (λy=>(6-y).n) ?_ ?_
 .simp
 rintro t ⟨t0,t1⟩;dsimp only at t0 t1 ⊢
 by_cases ht:t<6
 .obtain⟨R,hR⟩:∃R,yq S c (uT c.l (min k c.l).n 0) t S.l=R:=⟨_,rfl⟩;have Gn:=Dd (n:=c.l) (k:=(min k c.l).n) (a:=0) U U;have QJ:=PZ (n:=c.l) (k:=(min k c.l).n) (a:=0);have gW:=aeo (t:=t) VO Gn U M a6 S.l (Nat.le_refl _);have sW:=W8 (ws:=S) (v:=c) (P:=uT c.l (min k c.l).n 0) (t:=t) S.l;rw[hR]at gW sW;have Z:∀x∈R,x.ok:=λx f=>(gW x f).1.ok;have u9:∀x∈R,∀r∈x.c.es,r.2<=4000:=λx f=>(gW x f).1.b;have b0:=ahW S c k t VO vu I M Q1 a4 hR;have s:=ahX g hg l h h0 U (P0 R) Z u9 U;have L:=ahZ R Z U c I M;have j:=ahi R;have tK:=alD R;have H:¬S.l<R.l:=U;clear gW u9;simp[ht,D,As,hk];refine pM ht D As hk ?_;refine Yc b0 ?_ rfl rfl gP j;simp[tK,H];refine ko tK H ?_;obtain⟨S0,Y⟩:∃S0,xw (jR g l (iq g l)) l.l (kq l.l) (cs R)=S0:=⟨_,rfl⟩;rw[Y]at s
  by_cases N:PY R c
  .have hE:=atH J (cl:=cs R) λi i0 d=>by obtain⟨x,h1,h2,h3⟩:=N i i0 U;exact⟨x.c,aj.2 ⟨x,h1,rfl⟩,h3,h2⟩
   rw[Y]at hE;subst hE;rw[decide_eq_true N]at L;simp only[CI,w5]at s;refine Yc s ?_ rfl rfl (by simp[j]) gP;simp;refine gU ?_;refine Yc Ti ?_;simp;refine gU ?_;refine Yc L ?_ rfl rfl (by simp[j]) gP
   have UC:R≠[]:=λe=>by obtain⟨x,f,_⟩:=N 0 U U;rw[e]at f;cases f
   have a5:Bt R = .sl 36 (R.map iW):=if_neg UC;rw[w5]at Y;obtain⟨o,Q⟩:∃o,(upto R.l).filter (λk => !s9 c (gt (cs R) k))=o:=⟨_,rfl⟩
   have GG:∀q:Int,q∈o↔(0<=q/\q<R.l)/\s9 c (gt (cs R) q)=false:=λq=>by rw[<-Q,aH,l8];simp
   have Kr:o.l<=R.l:=by rw[<-Q];have:=List.length_filter_le (λk => !s9 c (gt (cs R) k)) (upto R.l);rwa [ru]at this
   have nz:∀Hc,od .slice (dN 1 f1 o) Hc=eh (.i o.l):=λHc=>by
    cases o with
    | nil=>rfl
    | cons a r=>simp[dN]
   simp only[Q,a5]at *;clear Q;simp;refine gU ?_;refine gZ.e (0:Int) (λy=>[(5,.ptr 1 0 0),(7,.b cp),(8,.ptr 2 0 0),(9,iS c),(12,iS c),(14,.sl 5 (S.map qv)),(15,.i t),(16,.sl 36 (R.map iW)),(18,dN 1 f1 o),(20,.i y)]) (λy=>[.row 32 0 (cl fC X),.row 34 0 [.val (.int .u8 a),.val (.int .u8 b)],.row 49 0 (g.cells++(p.cells ++ [iZ l,.b cp]))]) (λy=>0<=y/\y<=o.l) (λy=>(o.l-y).n) ?_ ?_
   .simp
   rintro i ⟨i0,d⟩;dsimp only at i0 d ⊢
   by_cases hi:i<o.l
   .have W:dN 1 f1 o=dI o:=by
     cases o with
     | nil=>simp at hi;omega
     | cons a r=>rfl
    obtain⟨q,G⟩:∃q,gt o i=q:=⟨_,rfl⟩;obtain⟨⟨q0,q1⟩,q2⟩:=(GG q).1 (G▸ij i0 hi);have z:=Z _ (ij q0 q1);have u:=TT (gt R q) z c M;rw[JK q0 q1]at q2;rw[<-Qj z,q2]at u;have C:(iW (gt R q)).l=36:=Fl.len _;have B:(iW (gt R q)).take 36=iW (gt R q):=af U;have vZ:iB (iW (gt R q))=true:=Fl.cl _;have n1:¬q<0:=U;have n2:¬(R.l:Int)<=q:=U;simp[hi,i0,nz,W,G,n1,n2,q0,q1,C,B];refine pM (aE hi (aE i0 nz)) (aE W (aE G n1)) (aE n2 (aE q0 q1)) (aE C B) ?_;refine ik.c rfl rfl u (by simp[vZ]) gP ?_;simp;refine gU ?_;refine LJ.i (i+1) (by first|rfl|simp[W]) (by first|rfl|simp[W]) rfl rfl ?_;omega
   .simp[hi,nz];refine gZ.s lO ?_;refine gZ.e (0:Int) (λy=>[(5,.ptr 1 0 0),(7,.b cp),(8,.ptr 2 0 0),(9,iS c),(12,iS c),(14,.sl 5 (S.map qv)),(15,.i t),(16,.sl 36 (R.map iW)),(18,dN 1 f1 o),(21,.i y)]) (λy=>[.row 32 0 (cl fC X),.row 34 0 [.val (.int .u8 a),.val (.int .u8 b)],.row 49 0 (g.cells++(p.cells ++ [iZ l,.b cp]))]) (λy=>0<=y/\y<=R.l) (λy=>(R.l-y).n) ?_ ?_
    .simp
    clear i0 d hi;rintro i ⟨i0,d⟩;dsimp only at i0 d ⊢
    by_cases hi:i<R.l
    .have z:=Z _ (ij i0 hi);have u:=TT (gt R i) z c M;have Zu:=ah1 o i U;have U8:=GG i;rw[JK i0 hi]at U8;rw[<-Qj z]at u;have C:(iW (gt R i)).l=36:=Fl.len _;have B:(iW (gt R i)).take 36=iW (gt R i):=af U;have vZ:iB (iW (gt R i))=true:=Fl.cl _;obtain⟨q,G⟩:∃q,s9 c (gt R i).c=q:=⟨_,rfl⟩;rw[G]at u U8;simp[hi,i0,C,B];refine pM hi i0 C B ?_;refine ik.c rfl rfl u (by simp[vZ]) gP ?_;cases q
     .rw[decide_eq_true (U8.2 ⟨⟨i0,hi⟩,rfl⟩)]at Zu;simp;refine gU ?_;refine Yc Zu ?_;simp;refine gU ?_;refine LJ.e (i+1) ?_;omega
     .simp;refine gU ?_;refine LJ.e (i+1) ?_;omega
    .simp[hi];refine oO ?_;refine LJ.e (t+1) ?_;omega
  .rw[decide_eq_false N]at L;obtain⟨_|v,o⟩:=S0
   .simp only[CI]at s;refine Yc s ?_ rfl rfl (by simp[j]) gP;simp;refine gU ?_;refine Yc L ?_ rfl rfl (by simp[j]) gP;simp;refine gU ?_;refine LJ.e (t+1) ?_;omega
   .obtain rfl:=atI J Y;simp only[CI]at s;refine Yc s ?_ rfl rfl (by simp[j]) gP;simp;refine gU ?_;refine Yc Ti ?_;simp;refine gU ?_;refine Yc L ?_ rfl rfl (by simp[j]) gP;simp;refine gU ?_;refine LJ.e (t+1) ?_;omega
 .simp[ht]
def ahR(x:sw)(c:Ik x)(ws:List B5)(f:∀y∈ws,y.ok)(a b:Int)(e:0<=a/\a<256)(d:0<=b/\b<256) :
  Wf T 3 [.agg x.cells,.sl 5 (ws.map f5),.agg [.val (.int .u8 a),.val (.int .u8 b)]] [] (Is (.b cp)):=ahS ahT x c ws f a b e d
