/- 12 -/
import Derived.Test.YtmehofoficaelaaGreatDoorP11
set_option linter.all false
open Nat renaming le_trans→aE
open List renaming length→List.l
open Int renaming toNat→Int.n
namespace Go.AL
open Go Classical
def jw{α:Type}{f:α->List D}(a:α):cl f [a]=f a:=by rw[oG,agG,az]
def gZ.e{T:jt}{live:List Nat}{a:IR}{s:St}{K:jD}{α:Type}(b:α)(E:α->Env)(c:α->gQ)(P:α->Prop)(d:α->Nat)(h0:P b)
  (h:∀x,P x->XC T a { env:=E x,H:=c x } (vz s.H.l live ((E b).map (·.1)) (LJ E c [] false (λe=>d e<d x/\P e) .mk) K))
  (l:forget ((E b).map (·.1)) s.env=E b:=by simp) (j:s.H=c b:=by first|rfl|(simp[jw];done)|(simp[*];done)) (i:s.marks = []:=by exact rfl) (g:s.iI=false:=by exact rfl) (f:(((E b).map (·.1)).all λk=>live.contains k)=true:=by exact rfl):gZ T live a s K .mk:=gZ.k b E c P d h0 l j i g f h
def mr.pw{l:List Pos}(h:mr l):l.Pairwise λx y=>jz x y<0:=by refine bV.2 λi j hi a b=>?_;have:=h.le (i:=(i:Int)) (j:=(j:Int)) U U U;rwa [w8 hi,w8 a]at this
def mr.of{r:List Pos}(h:r.Pairwise λx y=>jz x y<0):mr r:=by intro i h1 a;rw[jU U U,jU U U];exact bV.1 h _ _ _ _ U
theorem ad3:∀ {a b:List Pos},(a.Pairwise λx y=>jz x y<0)->(b.Pairwise λx y=>jz x y<0)->(∀q,q∈a↔q∈b)->a=b
 | [],[],_,_,_=>rfl
 | [],y::b,_,_,h=>by have:=(h y).2 gP;cases this
 | x::a,[],_,_,h=>by have:=(h x).1 gP;cases this
 | x::a,y::b,ha,hb,h=>by
  have d:=aI.1 ha;have g:=aI.1 hb
  have e:x=y:=by
   rcases ak.1 ((h x).1 gP)with e|e
   .exact e
   rcases ak.1 ((h y).2 gP)with f|f
   .exact f.symm
   have h1:=g.1 x e;have i:=d.1 y f;rw[xI]at h1;omega
  subst e;rw[ad3 d.2 g.2 λq=>?_];constructor
  .intro c;rcases ak.1 ((h q).1 (by simp[c]))with e|e
   .subst e;have:=d.1 q c;rw[xH]at this;omega
   .exact e
  .intro c;rcases ak.1 ((h q).2 (by simp[c]))with e|e
   .subst e;have:=g.1 q c;rw[xH]at this;omega
   .exact e
def HW{a b:List Pos}(d:mr a)(c:mr b)(h:∀q,q∈a↔q∈b):a=b:=ad3 d.pw c.pw h
def agU{x y:Pos}(h:x≠y)(a:¬jz x y<0):jz y x<0:=by have:jz x y≠0:=λe=>h (tG.1 e);rw[xI];omega
theorem ach(x:Pos):∀r:List Pos,(r.Pairwise λx y=>jz x y<0)->∃r':List Pos,(r'.Pairwise λx y=>jz x y<0)/\∀q,q∈r'↔q=x\/q∈r
 | [],_=>⟨[x],gP,gP⟩
 | y::r,h=>by
  have b:=aI.1 h
  by_cases e:x=y
  .subst e;exact⟨x::r,h,gP⟩
  by_cases hl:jz x y<0
  .refine⟨x::y::r,aI.2 ⟨λz a=>?_,h⟩,gP⟩;rcases ak.1 a with rfl|a
   .exact hl
   .exact Bp hl (b.1 z a)
  .obtain⟨r',h1,c⟩:=ach x r b.2;refine⟨y::r',aI.2 ⟨λz a=>?_,h1⟩,λq=>?_⟩
   .rcases(c z).1 a with rfl|a
    .exact agU e hl
    .exact b.1 z a
   .simp only[ak,c];constructor
    .rintro(h|h|h)<;>simp[h]
    .rintro(h|h|h)<;>simp[h]
theorem SD:∀l:List Pos,∃r,mr r/\∀q,q∈r↔q∈l
 | []=>⟨[],λi h1 a=>by simp at a;omega,gP⟩
 | x::l=>by obtain⟨r,h1,a⟩:=SD l;obtain⟨r',c,b⟩:=ach x r h1.pw;exact⟨r',mr.of c,λq=>by rw[b,a,ak]⟩
noncomputable def lY(l:List Pos):List Pos:=Classical.choose (SD l)
def E5(l:List Pos):mr (lY l):=(da (SD l)).1
@[simp] theorem yx{l:List Pos}{q:Pos}:q∈lY l↔q∈l:=(da (SD l)).2 q
theorem aeO{l r:List Pos}(h:mr r)(a:∀q,q∈r↔q∈l):r=lY l:=HW h (E5 l) λq=>by rw[a,yx]
theorem wL{α:Type}[DecidableEq α]:∀ {l m:List α},l.Nodup->(∀x∈l,x∈m)->l.l<=m.l
 | [],m,_,_=>gP
 | a::l,m,b,h=>by
  have b:=bT.1 b
  have h1:l.l<=(m.erase a).l:=wL b.2 λx c=>by refine(List.mem_erase_of_ne ?_).2 (h x (by simp[c]));rintro rfl;exact b.1 c
  rw[gj (h a gP)]at h1;have:0<m.l:=dz (h a gP);simp;omega
def mr.nodup{l:List Pos}(h:mr l):l.Nodup:=h.pw.imp λ{a b} c e=>by subst e;rw[xH]at c;omega
def SC(l:List Pos):(lY l).l<=l.l:=wL (mr.nodup (E5 l)) λx a=>yx.1 a
def ended(g:gY)(p:Pos):Prop:=∃c∈g.clauses,mj p c
def Ln{g:gY}{p:Pos}(h:¬ended g p):∀c∈g.clauses,¬mj p c:=λc a hl=>h ⟨c,a,hl⟩
def P9(g:gY)(p:Pos):List Pos:=(upto g.kinds.l).flatMap λk=>(upto p.cs.l).map λc=>lx p k c
theorem Dv{α c:Type}{f:α->List c}{n:Nat}:∀ {l:List α},(∀a∈l,(f a).l<=n)->(l.flatMap f).l<=l.l*n
 | [],_=>gP
 | a::l,h=>by rw[List.flatMap_cons,aq,aF,cU];have:=h a gP;have:=Dv (l:=l) λb d=>h b (by simp[d]);omega
theorem aeA{g:gY}:∀ {l:List gT} {a:List il},(tY g l a).l<=10 ^ l.l*a.l
 | [],a=>by simp[tY]
 | x::r,a=>by rw[tY];refine aE aeA ?_;rw[aF,fh,gM];refine ft _ ?_;rw[eC];exact Dv λs _=>HZ
def arW{g:gY}(hg:iE g){p:Pos}(b:ja g p):(su g p).l<=3600000000:=by
 have i:=b.size;have j:=hg.kC.size
 have:(su g p).l<=(upto p.cs.l).l*400000000:=by
  refine Dv λc f=>?_;rw[l8]at f;unfold rS;split
  .rename_i e;have a:=HY hg b f.1 U e;have d:=hg.jv _ (ij (l:=g.kinds) a.kind.1 a.kind.2)
   have m:((gt g.kinds (iC (gt p.cs c))).jv.flatMap (xp g p c)).l<=(gt g.kinds (iC (gt p.cs c))).jv.l*100000000:=by refine Dv λl hl=>?_;have h:=(d.2 l hl).len;refine aE (gp _ _) (aE aeA ?_);have:10 ^ l.l<=10 ^ 8:=dt jo h.2;simpa using this
   have k:(gt g.kinds (iC (gt p.cs c))).jv.l<=4:=d.1;omega
  .simp
 have e:(upto p.cs.l).l=p.cs.l:=by simp[upto]
 rw[e]at this;omega
def ahu{g:gY}(hg:iE g){p:Pos}(a:ja g p):(P9 g p).l<=18:=by
 have b:=a.size;have d:=hg.kC.size;have c:=hg.kinds
 have:(P9 g p).l<=(upto g.kinds.l).l*9:=Dv λk _=>by simp[upto];omega
 have e:(upto g.kinds.l).l=g.kinds.l:=by simp[upto]
 rw[e]at this;omega
def amj{g:gY}{p q:Pos}(h:sP g p q):q∈(su g p).map (·.p)++P9 g p:=by
 obtain⟨_,h⟩:=h;split at h
 .exact ai.2 (.inl (aj.2 ⟨_,h,rfl⟩))
 .rcases h with⟨o,h,rfl⟩|⟨k,c,h1,d,b,a,_,_,rfl⟩
  .exact ai.2 (.inl (aj.2 ⟨_,h,rfl⟩))
  .exact ai.2 (.inr (bG.2 ⟨k,l8.2 ⟨h1,d⟩,aj.2 ⟨c,l8.2 ⟨b,a⟩,rfl⟩⟩))
noncomputable def kd(g:gY)(p:Pos):List Pos:=lY (((su g p).map (·.p)++P9 g p).filter λq=>decide (sP g p q))
def amm(g:gY)(p:Pos):mr (kd g p):=E5 _
@[simp] theorem ED{g:gY}{p q:Pos}:q∈kd g p↔sP g p q:=by unfold kd;rw[yx,aH];simp only[decide_eq_true_eq];exact⟨λh=>h.2,λh=>⟨amj h,h⟩⟩
def WI{g:gY}{p:Pos}{r:List Pos}(h:mr r)(a:∀q,q∈r↔sP g p q):r=kd g p:=HW h (amm g p) λq=>by rw[a,ED]
def WH{g:gY}{p:Pos}(h:ended g p):kd g p = []:=by refine a7.2 λq a=>?_;obtain⟨c,b,hl⟩:=h;exact(ED.1 a).1 c b hl
@[irreducible] noncomputable def yk(g:gY)(p:Pos):D:=if ended g p then .gV else iZ (kd g p)
theorem RR(g:gY)(p:Pos):(yk g p = .gV/\kd g p = [])\/yk g p=iZ (kd g p):=by
 unfold yk;split
 .rename_i h;exact .inl ⟨rfl,WH h⟩
 .exact .inr rfl
def Hm{g:gY}(hg:iE g){p:Pos}(a:ja g p):(kd g p).l<=4000000000:=by refine aE (SC _) (aE (List.length_filter_le _ _) ?_);have:=arW hg a;have:=ahu hg a;simp;omega
section
variable{g:gY}{p:Pos}{n:Int}{k:IntKind}{P:D->Prop}{H:gQ}
@[simp] theorem ayC:closed (yk g p)=true:=by rcases RR g p with⟨h,_⟩|h<;>rw[h]<;>simp
@[simp] theorem aA7:od .slice (yk g p) H=some (.i (kd g p).l):=by rcases RR g p with⟨h,e⟩|h<;>rw[h]<;>simp[*]
@[simp] theorem aEy:lX 5 H (yk g p)=some (cl Pos.cells (kd g p),(kd g p).l):=by rcases RR g p with⟨h,e⟩|h<;>rw[h]<;>simp[*]
@[simp] theorem aB0:oA (ot 5 (yk g p) (.val (.int k n))) P .mk=((0<=n/\n<(kd g p).l)/\P (.ie (gt (kd g p) n).cells)):=by
 rcases RR g p with⟨h,e⟩|h
 .rw[h,e];simp only[ot,adz,dp];refine propext ⟨λh=>h.elim,λ⟨h,_⟩=>?_⟩;have:=h.1;have:=h.2;simp at this;omega
 .rw[h];exact AJ
end
noncomputable def w6(g:gY)(p:Pos):Int:=if ended g p then(g.clauses.findIdx λc=>decide (mj p c):Nat)else -1
def aai{g:gY}{p:Pos}(h:ended g p):0<=w6 g p/\w6 g p<g.clauses.l/\gt g.clauses (w6 g p)∈g.clauses:=by
 unfold w6;rw[if_pos h]
 have:(g.clauses.findIdx λc=>decide (mj p c))<g.clauses.l:=by rw[List.findIdx_lt_length];obtain⟨c,a,hl⟩:=h;exact⟨c,a,by simpa using hl⟩
 exact oO (ij U U)
def aaj{g:gY}{p:Pos}(h:¬ended g p):w6 g p = -1:=by unfold w6;rw[if_neg h]
def aak{g:gY}{p:Pos}:0<=w6 g p↔ended g p:=by
 by_cases h:ended g p
 .exact⟨λ_=>h,λ_=>(aai h).1⟩
 .rw[aaj h];simp[h]
noncomputable def stat(g:gY)(p:Pos):Int×Bool:=(if ended g p then(gt g.clauses (w6 g p)).out else if kd g p = []then g.blocked else 0,decide (kd g p = []))
def aeV{g:gY}(hg:iE g){p:Pos}(h:(stat g p).2=true):1<=(stat g p).1/\(stat g p).1<=3:=by
 unfold stat at *;simp only[decide_eq_true_eq]at h ⊢;split
 .rename_i a;exact(hg.clause _ (aai a).2.2).out
 .exact hg.blocked
end Go.AL
namespace Go.Proofs.YtmehofoficaelaaGreatDoor
open Go Go.AL Classical
set_option maxRecDepth 10000
set_option maxHeartbeats 1000000
def aaT(p:Pos)(a:Small p):Wf T 205 [dP p] [] (λd H=>d = .agg [.gR 0 1 1 0 p.cs.l,dI p.h0,dI p.h1,.i p.iw,.i p.side]/\H = [.row 3 1 (cl f1 p.cs)]):=by obtain⟨h1,c,b⟩:=a;refine Wf.xo 3 (fn:=Bb) rfl (by simp[Bb]) ?_;simp[Bb];exact oS
@[irreducible] def fA(a:List il):List D:=[lR a]
theorem Dq(a:List il):fA a = [lR a]:=by unfold fA;rfl
instance:Fl fA 1:=⟨λ_=>by simp[Dq],λ_=>by simp[Dq,iB]⟩
@[simp] theorem ax3(l:List (List il))(x:List il):cl fA l ++ [lR x]=cl fA (l ++ [x]):=by rw[<-tE,Dq]
theorem agx(x:List il) : [lR x]=cl fA [x]:=by rw[oG,Dq];simp
def rk(g:gY)(x:gT)(now:List il):List il:=now.foldl (λa s=>nL a (jT g s x)) []
def rU(g:gY):List gT->List il->List (List il)
 | [],_=>[]
 | x::r,now=>rk g x now::rU g r (rk g x now)
theorem abj{g:gY}{x:gT}{t:il}:∀ {now a:List il},t∈now.foldl (λa s=>nL a (jT g s x)) a↔t∈a\/t∈now.flatMap λs=>jT g s x
 | [],a=>gP
 | s::r,a=>by rw[cK,abj,IT,List.flatMap_cons,ai,or_assoc]
def RU{g:gY}{x:gT}{now:List il}{t:il}:t∈rk g x now↔t∈now.flatMap λs=>jT g s x:=by unfold rk;rw[abj];simp
theorem abi{g:gY}{x:gT}:∀ {now c:List il},(now.foldl (λc s=>nL c (jT g s x)) c).l<=c.l+10*now.l
 | [],c=>gP
 | s::r,c=>by rw[cK];refine aE abi ?_;have:=IS (a:=c) (b:=jT g s x);have:=HZ (g:=g) (s:=s) (x:=x);rw[aF];omega
def Lk{g:gY}{x:gT}{now:List il}:(rk g x now).l<=10*now.l:=by unfold rk;refine aE abi ?_;simp
theorem aeX{g:gY}:∀ {l:List gT} {now:List il},(rU g l now).l=l.l
 | [],_=>rfl
 | x::r,now=>by rw[rU,aF,aeX,aF]
def f194(g:gY)(hg:iE g)(p:Pos)(m:ja g p)(c i:Int)(o:0<=c/\c<g.size)(r:lg (gt p.cs c)=p.side)(hi:0<=i/\i<(gt g.kinds (iC (gt p.cs c))).jv.l) :
  Wf T 254 [dG g,dP p,.i c,.i i] [] (Is (.agg [.sl 1 (([mo p c]::rU g (gt (gt g.kinds (iC (gt p.cs c))).jv i) [mo p c]).map fA),.i 0])):=by
 have I:=m.size;have w:=m.small hg;have y:=m.cs _ (ij o.1 U);have z:=m.side;obtain⟨m1,m2,m3,m4⟩:=Eu z.1 r;have C:iC (gt p.cs c)<g.kinds.l:=zq y.2 hg.kinds.1;refine Yz Iz (jY 117 [10] Iz.body) ?_;simp[Iz,jY,lV,po,py,pY,nQ];refine Yc (f65 g p hg m) ?_;simp;(with_reducible repeat' first|refine Xk ?_<;>try simp|refine Xs ?_ ?_<;>intro h<;>(try intro E)<;>(try simp[h])<;>try omega|refine Xg ?_|omega);refine Yc (f51 _) ?_;simp;(with_reducible repeat' first|refine Xk ?_<;>try simp|refine Xs ?_ ?_<;>intro h<;>(try intro E)<;>(try simp[h])<;>try omega|refine Xg ?_|omega)
 rotate_right
 refine rX.n rfl rfl (aaT p w) gP gP ?_;simp;refine gU ?_;refine gZ.fz [0,1,3,4,5,6,8] rfl ?_;have q0:=jy (l:=p.cs) (n:=c) (v:=0) o.1 U;have A:lj g (mo p c):=HY hg m o.1 o.2 r;have G:=hg.jv _ (ij (l:=g.kinds) m1 C);generalize u:gt (gt g.kinds (iC (gt p.cs c))).jv i=prog at *;have q:zK g prog:=G.2 _ (u▸ij hi.1 hi.2);have B:=q.len
 refine gZ.k ((0,[[mo p c]],[mo p c]):Int×List (List il)×List il) (λx=>[(4,.ie g.cells),(8,.ptr 2 0 0),(11,.ptr 9 0 0),(12,lR x.2.2),(13,iS prog),(14,.i x.1)]) (λx=>[.dead,.dead,.row 369 0 [.gV,.i 0],.dead,.dead,.dead,.dead,.row 371 x.1.n (cl fA x.2.1),.dead,.row 369 0 [.gR 7 x.1.n 1 0 x.2.1.l,.i 0]])
  (λx=>0<=x.1/\x.1<=prog.l/\x.2.1.l=x.1.n+1/\(∀s∈x.2.2,lj g s)/\x.2.2.l<=10 ^ x.1.n/\[mo p c]::rU g prog [mo p c]=x.2.1++rU g (prog.drop x.1.n) x.2.2) (λx=>prog.l-x.1.n) ?_ ?_ ?_ rfl rfl gP ?_
 .simp;exact A
 .simp[mo,q0]
 .simp[mo,<-agx,q0]
 rintro⟨k,steps,now⟩ ⟨k0,k1,k2,k3,k4,k5⟩;dsimp only at k0 k1 k2 k3 k4 k5 ⊢;simp;refine ma ?_ ?_<;>intro h
 .refine gZ.e ((0,0,[]):Int×Nat×List il) (λx=>[(4,.ie g.cells),(8,.ptr 2 0 0),(11,.ptr 9 0 0),(12,lR now),(13,iS prog),(14,.i k),(15,.gR 10 x.2.1 8 0 x.2.2.l),(16,.i x.1)]) (λx=>[.dead,.dead,.row 369 0 [.gV,.i 0],.dead,.dead,.dead,.dead,.row 371 k.n (cl fA steps),.dead,.row 369 0 [.gR 7 k.n 1 0 steps.l,.i 0],.row 373 x.2.1 (cl il.cells x.2.2)]) (λx=>0<=x.1/\x.1<=now.l/\(∀s∈x.2.2,lj g s)/\x.2.2.l<=10*x.1.n/\rk g (gt prog k) now=(now.drop x.1.n).foldl (λf s=>nL f (jT g s (gt prog k))) x.2.2) (λx=>now.l-x.1.n) ?_ ?_
  .simp[rk]
  rintro⟨j,F,f⟩ ⟨j0,j1,j2,j3,j4⟩;dsimp only at j0 j1 j2 j3 j4 ⊢;simp;refine ma ?_ ?_<;>intro h
  .refine Yt (f228 g hg _ (k3 _ (ij j0 ‹_›)) _ (q.steps _ (ij k0 ‹_›))) ?_;simp;have gW:=k3 _ (ij j0 ‹_›);refine ik.kZ rfl rfl (f227 10 F f (jT g (gt now j) (gt prog k)) _ rfl gP (λs hs=>(j2 s hs).p.small hg) (λs hs=>(CJ hg gW (q.steps _ (ij k0 ‹_›)) hs).p.small hg) ?_) ?_
   .have h1:=HZ (g:=g) (s:=gt now j) (x:=gt prog k);have D:10 ^ k.n<=10 ^ 8:=dt jo U;omega
   rintro d H' ⟨H,rfl,rfl⟩;simp;have D:10 ^ k.n<=10 ^ 8:=dt jo U;refine gU ?_;refine LJ.e (j+1,H,nL f (jT g (gt now j) (gt prog k))) ?_;refine⟨iv,iv,iv,λs hs=>?_,?_,?_⟩
   .rcases IT.1 hs with hs|hs
    .exact j2 s hs
    .exact CJ hg gW (q.steps _ (ij k0 ‹_›)) hs
   .have h1:=HZ (g:=g) (s:=gt now j) (x:=gt prog k);have t:=IS (a:=f) (b:=jT g (gt now j) (gt prog k));dsimp only;omega
   .rw[j4,pa j0 ‹_›,cK,(U:(j+1).n=j.n+1)]
  .have e:rk g (gt prog k) now=f:=by rw[j4,bE U];rfl
   refine gU ?_;refine LJ.i (k+1,steps ++ [f],f) (by first|rfl|simp[(U:(k+1).n=k.n+1)]) (by first|rfl|simp[(U:(k+1).n=k.n+1)]) rfl rfl ?_;refine⟨iv,iv,iv,iz,j2,?_,?_⟩
   .have t:=Lk (g:=g) (x:=gt prog k) (now:=now);rw[e]at t;dsimp only;rw[(U:(k+1).n=k.n+1),fh];omega
   .rw[k5,pa k0 ‹_›,rU,e,(U:(k+1).n=k.n+1)];simp
 .rw[bE U,rU,az]at k5;rw[<-k5];simp
def alF{a b:iJ}(h1:¬K9 a b)(c:¬K9 b a):a=b:=by
 unfold K9 at *;have e:=xI a.p b.p
 have h:jz a.p b.p=0:=by
  by_cases h:jz a.p b.p=0
  .exact h
  .exfalso
   by_cases d:jz a.p b.p<0
   .exact h1 (.inl d)
   .exact c (.inl U)
 have f:jz b.p a.p=0:=U;simp[h,f]at h1 c;have:=tG.1 h;cases a;cases b;simp_all;rename_i x y _;cases x<;>cases y<;>simp_all
structure Pr(l:List iJ)(x:iJ)(i:Int)(d:Bool)(out:List iJ):Prop where
 i0:0<=i/\i<=l.l
 dn:d=true->x∈out
 sub:∀o∈out,o∈l.take i.n\/o=x
 sup:∀o∈l.take i.n,o∈out
 len:out.l<=i.n+(if d then 1 else 0)
def Pr.step{l:List iJ}{x:iJ}{i:Int}{d d':Bool}{out:List iJ}(h:Pr l x i d out)(hi:i<l.l)(xs:List iJ)(b:∀o∈xs,o=x)(c:d'=true->d=true\/x∈xs\/gt l i=x)(hl:xs.l+(if d then 1 else 0)<=(if d' then 1 else 0)):Pr l x (i+1) d' (out++xs ++ [gt l i]):=by
 have h0:=h.i0;refine⟨U,λe=>?_,λo a=>?_,λo a=>?_,?_⟩
 .rcases c e with e|e|e
  .have:=h.dn e;simp[this]
  .simp[e]
  .simp[e]
 .rw[jP h0.1 hi];simp at a ⊢;rcases a with a|a|a
  .rcases h.sub o a with h|h
   .exact .inl (.inl h)
   .exact .inr h
  .exact .inr (b o a)
  .exact .inl (.inr a)
 .rw[jP h0.1 hi]at a;simp at a ⊢;rcases a with a|a
  .exact .inl (h.sup o a)
  .exact .inr (.inr a)
 .have:=h.len;simp;omega
def f195(l:List iJ)(x:iJ)(hl:l.l<2 ^ 39)(hs:∀o∈l,Small o.p)(k:Small x.p):Wf T 255 [pS l,.agg x.cells] [] (Ex pS λr=>(∀o,o∈r↔o∈l\/o=x)/\r.l<=l.l+1):=by
 refine Yg Of ?_;simp[Of];refine gZ.e ((0,false,[]):Int×Bool×List iJ) (λy=>[(0,pS l),(3,.ptr 0 0 0),(5,.gR 1 y.2.2.l 6 0 y.2.2.l),(6,.b y.2.1),(7,.i y.1)]) (λy=>[.row 259 0 x.cells,.row 259 y.2.2.l (cl iJ.cells y.2.2)]) (λy=>Pr l x y.1 y.2.1 y.2.2) (λy=>l.l-y.1.n) ?_ ?_
 .exact⟨gP,gP,gP,gP,gP⟩
 rintro⟨i,done,out⟩ c;have h0:=c.i0;have j:=c.len;have m:(if done=true then 1 else 0)<=1:=by split<;>omega
 dsimp only at c h0 j ⊢;simp;(with_reducible repeat' first|refine Xk ?_<;>try simp|refine Xs ?_ ?_<;>intro h<;>(try intro n)<;>(try simp[h])<;>try omega|refine Xg ?_|omega)
 .refine LJ.e (i+1,true,out ++ [gt l i]) ?_;subst h;have:=c.step ‹_› [] (d':=true) gP gP gP;simp at this;exact⟨iz,this⟩
 .have d:=h;refine Yt (f229 _ _ (hs _ (ij h0.1 ‹_›)) k) ?_;simp[h];refine FK d ?_ ?_<;>intro h
  .subst d;have:=c.step ‹_› [] (d':=false) gP gP gP;simp at this;refine LJ.e (i+1,false,out ++ [gt l i]) ?_;exact⟨iz,this⟩
  .refine Yt (f229 _ _ k (hs _ (ij h0.1 ‹_›))) ?_;simp[d];refine FK d ?_ ?_<;>intro h
   .subst d;have:=c.step ‹_› [x] (d':=true) gP gP gP;refine LJ.e (i+1,true,out ++ [x] ++ [gt l i]) ?_;exact⟨iz,this⟩
   .subst d;have e:=alF (a:=gt l i) (b:=x) ‹_› ‹_›;have:=c.step ‹_› [] (d':=true) gP (by simp[e]) gP;simp at this;refine LJ.e (i+1,true,out ++ [gt l i]) ?_;exact⟨iz,this⟩
 .subst h;have g:=c.sub;have f:=c.sup;rw[nf U]at g f;refine⟨out,rfl,λo=>⟨g o,λh=>?_⟩,by simp at j;omega⟩;rcases h with h|h
  .exact f o h
  .rw[h];exact c.dn rfl
 .subst h;have g:=c.sub;have f:=c.sup;rw[nf U]at g f;refine⟨out ++ [x],by simp[pS],λo=>?_,by simp at j;simp;omega⟩;simp;constructor
  .rintro(h|h)
   .exact g o h
   .exact .inr h
  .rintro(h|h)
   .exact .inl (f o h)
   .exact .inr h
theorem acF{g:gY}:∀ {l:List gT} {now:List il} {t:il},t∈gt (now::rU g l now) l.l↔t∈tY g l now
 | [],now,t=>by simp[rU,tY,gt]
 | x::r,now,t=>by
  have e:gt (now::rU g (x::r) now) (x::r).l=gt (rk g x now::rU g r (rk g x now)) r.l:=by rw[rU];unfold gt;simp only[aF,bA,List.getD_cons_succ]
  rw[e,acF,tY];exact aez (λs=>RU) t
theorem acE{g:gY}:∀ {l:List gT} {now:List il},(gt (now::rU g l now) l.l).l<=10 ^ l.l*now.l
 | [],now=>by simp[rU,gt]
 | x::r,now=>by
  have e:gt (now::rU g (x::r) now) (x::r).l=gt (rk g x now::rU g r (rk g x now)) r.l:=by rw[rU];unfold gt;simp only[aF,bA,List.getD_cons_succ]
  rw[e];refine aE acE ?_;rw[aF,fh,gM];exact ft _ Lk
def f154(g:gY)(hg:iE g)(p:Pos)(b:ja g p)(c i:Int)(m:0<=c/\c<g.size)(w:lg (gt p.cs c)=p.side)(hi:0<=i/\i<(gt g.kinds (iC (gt p.cs c))).jv.l) :
  Wf T 204 [dG g,dP p,.i c,.i i] [] (Ex (λr=>.tup [pS r,.i 0]) λr=>(∀o,o∈r↔o∈xp g p c (gt (gt g.kinds (iC (gt p.cs c))).jv i))/\r.l<=10 ^ 8):=by
 have K:=b.cs _ (ij m.1 (by have:=b.size;omega));have a:=b.side;obtain⟨m1,m2,m3,m4⟩:=Eu a.1 w;have N:iC (gt p.cs c)<g.kinds.l:=zq K.2 hg.kinds.1;have M:lj g (mo p c):=HY hg b m.1 m.2 w;have R:=hg.jv _ (ij (l:=g.kinds) m1 N);have Q:=f194 g hg p b c i m w hi;generalize I:gt (gt g.kinds (iC (gt p.cs c))).jv i=prog at *;have E:zK g prog:=R.2 _ (I▸ij hi.1 hi.2);have u:=E.len;have B:∀t,t∈gt ([mo p c]::rU g prog [mo p c]) prog.l↔t∈tY g prog [mo p c]:=λt=>acF;have F:=acE (g:=g) (l:=prog) (now:=[mo p c]);have Z:10 ^ prog.l<=10 ^ 8:=dt jo u.2;have H:=aeX (g:=g) (l:=prog) (now:=[mo p c]);generalize hS : [mo p c]::rU g prog [mo p c]=S at *;have W:S.l=prog.l+1:=by rw[<-hS];simp[H]
 refine Yz Ix (jY 70 [5] Ix.body) ?_;simp[Ix,jY,lV,po,py,pY,nQ];refine Yc (Q) ?_;simp;(with_reducible repeat' first|refine Xk ?_<;>try simp[Dq]|refine Xs ?_ ?_<;>intro h<;>(try intro h')<;>(try simp[h,Dq])<;>try omega|refine Xg ?_|omega);rw[(U:(S.l:Int)-1=prog.l)];generalize gt S (prog.l:Int)=L at *;have gW:∀s∈L,lj g s:=λs hs=>Sm hg E.steps (λt f=>by rw[List.mem_singleton]at f;subst f;exact M) s ((B s).1 hs);have O:L.l<=100000000:=by simp at F;omega
 simp[Dq];refine gU ?_;refine gZ.fz [0,2,3] rfl ?_;refine gZ.e ((0,[]):Int×List iJ) (λy=>[(5,.ptr 1 0 0),(11,pS y.2),(12,lR L),(13,.i y.1)]) (λy=>[.dead,.row 46 0 p.cells,.dead,.dead]) (λy=>0<=y.1/\y.1<=L.l/\(∀o,o∈y.2↔o∈(L.take y.1.n).filterMap (pT p.side))/\y.2.l<=y.1.n) (λy=>L.l-y.1.n) ?_ ?_
 .simp
 rintro⟨j,out⟩ ⟨j0,j1,j2,j3⟩;dsimp only at j0 j1 j2 j3 ⊢;simp;refine ma ?_ ?_<;>intro h
 .have hs:=gW _ (ij j0 ‹_›);have V:=hs.p.small hg;have Y:=hs.p.size;have A:=hs.cur;have z:=hs.kind;have X:=hg.kinds;generalize e:gt L j=s at *;refine ma ?_ ?_<;>intro h
  .have q:=jy (l:=s.p.cs) (n:=s.cur) (v:=1+2*s.kind+p.side) A.1 U;refine Yn (aaT s.p V) ?_;simp;refine Yt (f156 (k:=s.kind) (s:=p.side) z.1 U a.1 a.2) ?_;simp[q];refine jM q ?_;generalize d:({ p:=⟨pt s.p.cs s.cur (1+2*s.kind+p.side),s.p.h0,s.p.h1,s.p.iw,1-p.side⟩,kP:=s.kP }:iJ)=o;have C:pT p.side s=some o:=by rw[pT,if_pos ‹_›,<-d];rfl
   have G:Small o.p:=ja.small hg (Ql hs a.1 a.2 C)
   have J:∀o∈out,Small o.p:=λo d=>by obtain⟨t,f,P⟩:=c9.1 ((j2 o).1 d);exact ja.small hg (Ql (gW t (aQ f)) a.1 a.2 P)
   have c2:=f195 out o U J G;rw[<-d]at c2;refine ik.q rfl rfl c2 gP (λ_=>gP) ?_;intro r D;simp;rw[d]at D;refine gU ?_;refine LJ.e (j+1,r) ?_;refine⟨iv,iv,iv,λx=>?_,iv⟩;rw[D.1,j2,jP j0 ‹_›,e];simp[C,eq_comm]
  .refine gU ?_;refine LJ.e (j+1,out) ?_;refine⟨iv,iv,iv,λx=>?_,iv⟩;rw[j2,jP j0 ‹_›,e];have:pT p.side s=none:=by rw[pT,if_neg ‹_›]
   simp[this]
 .rw[nf U]at j2;refine⟨out,rfl,λo=>?_,?_⟩
  .rw[j2,xp];simp only[c9,B]
  .omega
