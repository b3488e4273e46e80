/- 23 -/
import Derived.Test.YtmehofoficaelaaGreatDoorP16
set_option linter.all false
open List renaming length→List.l
open Int renaming toNat→Int.n
namespace Go.Proofs.YtmehofoficaelaaGreatDoor
open Go Go.AL Classical
set_option maxRecDepth 100000
set_option maxHeartbeats 4000000
def f179(n a b:Int):Wf T 231 [.i n,.i a,.i b] [] (Is (.b (decide (a<=n/\n<=b)))):=by
 refine Yg N3 ?_;simp[N3];exact oS
 all_goals simp[*]
def f180(g:gY)(hg:qp g)(n:Int)(a : -1<=n/\n<g.size):Wf T 232 [.i n,.ie [.fn (.func 231) [] []],.ie [.i g.size,.sl 1 (g.next.map fI),dI g.jC]] [] (Is (.b false)):=by have hs:=hg.size;refine Yg N4 ?_;simp[N4];refine gU ?_;refine Yc (f179 n (-1) (g.size-1)) ?_;simp[(U:-1<=n/\n<=g.size-1)]
def aiZ(g:gY)(hg:qp g)(l:List Int)(hl:∀n∈l,-1<=n/\n<g.size)(b:l.l<=9):Wf T 230 [dI l,.fn (.func 232) [] [.ie [.fn (.func 231) [] []],.ie [.i g.size,.sl 1 (g.next.map fI),dI g.jC]]] [] (Is (.i (-1))):=by
 refine Yg Fw ?_;simp[Fw];refine gZ.e (0:Int) (λy=>[(0,dI l),(1,.fn (.func 232) [] [.ie [.fn (.func 231) [] []],.ie [.i g.size,.sl 1 (g.next.map fI),dI g.jC]]),(7,.i l.l),(8,.i y)]) (λy=>[]) (λy=>0<=y/\y<=l.l) (λy=>(l.l-y).n) ?_ ?_
 .simp
 rintro i ⟨i0,a⟩
 by_cases hi:i<l.l
 .simp[hi];refine gU ?_;refine Yc (f180 g hg (gt l i) (hl _ (ij i0 hi))) ?_;simp;refine gU ?_;refine LJ.e (i+1) ?_;exact nE
 .simp[hi]
def aiY(g:gY)(hg:qp g)(l:List Int)(hl:∀n∈l,-1<=n/\n<g.size)(a:l.l<=9):Wf T 170 [dI l,.fn (.func 232) [] [.ie [.fn (.func 231) [] []],.ie [.i g.size,.sl 1 (g.next.map fI),dI g.jC]]] [] (Is (.b false)):=by refine Yg Fv ?_;simp[Fv];refine Yc (aiZ g hg l hl a) ?_;simp
def f137(g:gY)(hg:qp g):Wf T 172 [g.kC] [] (Is (.b true)):=by
 have hs:=hg.size;have c:=hg.next
 have b:=hg.jC;refine Yg NH ?_;simp[NH,c];refine Yc (f179 g.size 1 64) ?_;simp[(U:1<=g.size/\g.size<=64)];refine Yc (f179 8 1 8) ?_;simp;refine ko c b ?_;refine gZ.e (0:Int) (λy=>[(1,.ptr 0 0 0),(3,.i 8),(4,.ptr 1 0 0),(29,.sl 1 (g.next.map fI)),(30,.i 8),(31,.i y)]) (λy=>[.row 39 0 [.i g.size,.sl 1 (g.next.map fI),dI g.jC],.row 345 0 [.fn (.func 231) [] []]]) (λy=>0<=y/\y<=8) (λy=>(8-y).n) ?_ ?_
 .simp
 rintro i ⟨i0,e⟩
 by_cases hi:i<8
 .have d:=hg.row _ (ij (l:=g.next) i0 U);have a:=hg.turns i i0 hi;simp[hi,d.1,c];refine ko d.1 c ?_;refine Yr (aiY g hg _ d.2 U) ?_;simp;refine jM b ?_;refine Yt (f179 (gt g.jC i) 0 7) ?_;simp[(U:0<=gt g.jC i/\gt g.jC i<=7),b,a.2.2];refine ko b a.2.2 ?_;refine LJ.e (i+1) ?_;exact nE
 .simp[hi]
def f138(n:Int):Wf T 173 [.i n] [] (Is (.b (decide (1<=n/\n<=3)))):=by
 refine Yg NI ?_;simp[NI];exact oS
 all_goals simp[*]
def EJ(n:Int):Int:=if n=1\/n=2\/n=7 then 1 else if n=8 then 2 else if n=9\/n=10 then 3 else 0
def f182(n:Int)(b:1<=n/\n<=10):∃a,Wf T 234 [.i n] [] (Is (.tup [.agg [.val (.string a),.i (EJ n)],.b true])):=by
 rcases(U:n=1\/n=2\/n=3\/n=4\/n=5\/n=6\/n=7\/n=8\/n=9\/n=10)with rfl|rfl|rfl|rfl|rfl|rfl|rfl|rfl|rfl|rfl
 .exact⟨⟨#[103,111]⟩,rn (k:=40) ia⟩
 .exact⟨⟨#[115,108,105,100,101]⟩,rn (k:=40) ia⟩
 .exact⟨⟨#[101,109,112,116,121]⟩,rn (k:=40) ia⟩
 .exact⟨⟨#[101,110,101,109,121]⟩,rn (k:=40) ia⟩
 .exact⟨⟨#[102,114,105,101,110,100]⟩,rn (k:=40) ia⟩
 .exact⟨⟨#[116,97,107,101]⟩,rn (k:=40) ia⟩
 .exact⟨⟨#[112,117,115,104]⟩,rn (k:=40) ia⟩
 .exact⟨⟨#[98,101,99,111,109,101]⟩,rn (k:=40) ia⟩
 .exact⟨⟨#[110,101,101,100]⟩,rn (k:=40) ia⟩
 .exact⟨⟨#[108,111,115,101]⟩,rn (k:=40) ia⟩
def f181(kinds iw:Int)(x:gT)(a:uO 8 kinds iw x):Wf T 233 [.agg [.i x.1,.i x.2],.ie [.i 1,.i 8,.i kinds,.i iw]] [] (Is (.b false)):=by
 have h1:1<=x.1/\x.1<=10:=by unfold uO at a;omega
 obtain⟨d,c⟩:=f182 x.1 h1
 have b:(EJ x.1=1/\0<=x.2/\x.2<8)\/(EJ x.1=0/\0<=x.2/\x.2<1)\/(EJ x.1=2/\0<=x.2/\x.2<kinds)\/(EJ x.1=3/\0<=x.2/\x.2<iw):=by unfold uO at a;unfold EJ;(repeat' split)<;>omega
 generalize EJ x.1=k at c b;rcases b with⟨rfl,h⟩|⟨rfl,h⟩|⟨rfl,h⟩|⟨rfl,h⟩
 all_goals
  refine Yg N5 ?_;simp[N5];refine Yc (c) ?_;simp;exact oS
def f225(kinds iw:Int)(l:List gT)(hl:∀x∈l,uO 8 kinds iw x)(b:l.l<=8):Wf T 280 [iS l,.fn (.func 233) [] [.ie [.i 1,.i 8,.i kinds,.i iw]]] [] (Is (.i (-1))):=by
 refine Yg Ou ?_;simp[Ou];refine gZ.e (0:Int) (λy=>[(0,iS l),(1,.fn (.func 233) [] [.ie [.i 1,.i 8,.i kinds,.i iw]]),(7,.i l.l),(8,.i y)]) (λy=>[]) (λy=>0<=y/\y<=l.l) (λy=>(l.l-y).n) ?_ ?_
 .simp
 rintro i ⟨i0,a⟩
 by_cases hi:i<l.l
 .simp[hi];refine gU ?_;refine Yc (f181 kinds iw (gt l i) (hl _ (ij i0 hi))) ?_;simp;refine gU ?_;refine LJ.e (i+1) ?_;exact nE
 .simp[hi]
def f183(kinds iw:Int)(l:List gT)(hl:∀x∈l,uO 8 kinds iw x)(a:l.l<=8):Wf T 235 [iS l,.fn (.func 233) [] [.ie [.i 1,.i 8,.i kinds,.i iw]]] [] (Is (.b false)):=by refine Yg N6 ?_;simp[N6];refine Yc (f225 kinds iw l hl a) ?_;simp
def f184(l:List gT)(f:l.l<=8)(n:Int):Wf T 236 [iS l,.i n] [] (Is (.i (oj l n))):=by
 refine Yg N7 ?_;simp[N7];refine gZ.e ((0,0):Int×Int) (λy=>[(1,.i n),(5,.i y.2),(8,iS l),(9,.i l.l),(10,.i y.1)]) (λy=>[]) (λy=>0<=y.1/\y.1<=l.l/\y.2=oj (l.take y.1.n) n/\0<=y.2/\y.2<=y.1) (λy=>(l.l-y.1).n) ?_ ?_
 .simp[oj]
 rintro⟨i,c⟩ ⟨i0,e,a,d,b⟩;dsimp only at i0 e a d b ⊢
 by_cases hi:i<l.l
 .simp[hi];refine ma ?_ ?_<;>intro h
  .refine LJ.e (i+1,c+1) ?_;refine⟨iv,iv,iv,?_,iv,iv⟩;dsimp only;rw[jP i0 hi,Jj,<-a,if_pos km]
  .refine LJ.e (i+1,c) ?_;refine⟨iv,iv,iv,?_,iv,iv⟩;dsimp only;rw[jP i0 hi,Jj,<-a,if_neg km];omega
 .simp[hi];rw[a,nf U]
def f140(g:gY)(hg:iE g)(l:List gT)(hl:zK g l):Wf T 175 [iS l,.i 8,.i g.kinds.l,.i g.iw] [] (Is (.b true)):=by have h1:=hl.len;have c:=hl.wQ;have b:=hl.push;have a:=hl.I2;refine Yg NK ?_;simp[NK];refine gU ?_;refine Yr (f183 g.kinds.l g.iw l (λx d=>(hl.steps x d).ok) h1.2) ?_;simp;refine gU ?_;refine Yc (f184 l h1.2 6) ?_;simp;refine kf c b a ?_;refine Yc (f184 l h1.2 7) ?_;simp;refine kf c b a ?_;refine Yc (f184 l h1.2 8) ?_;simp;exact afI c b a
def f139(g:gY)(hg:iE g)(l:List gT)(hl:zK g l):Wf T 174 [iS l,.ie g.cells] [] (Is (.b false)):=by
 have h1:=hg.kC.next
 refine Yg NJ ?_;simp[NJ,h1];refine Yc (f140 g hg l hl) ?_;simp
def asP:Wf T 176 [.val (.string ⟨#[97]⟩)] [] (Is (.b true)):=rn (k:=100) ia
def asQ:Wf T 176 [.val (.string ⟨#[98,101,101]⟩)] [] (Is (.b true)):=rn (k:=100) ia
def f141(n:Int):Wf T 176 [.val (.string (kindName n))] [] (Is (.b true)):=by
 unfold kindName;split
 .exact asP
 .exact asQ
def f188(k:Kind)(s:ByteArray):Wf T 240 [.agg k.cells,.ie [.val (.string s)]] [] (Is (.b (decide (k.name=s)))):=by refine Yg N9 ?_;simp[N9]
def f187(g:gY)(hg:iE g)(n:Int)(d:0<=n/\n<g.kinds.l):Wf T 239 [.sl 3 (g.kinds.map Kind.cells),.fn (.func 240) [] [.ie [.val (.string (kindName n))]]] [] (Is (.i n)):=by
 have e:=hg.kinds;refine Yg N8 ?_;simp[N8];refine gZ.e (0:Int) (λy=>[(0,.sl 3 (g.kinds.map Kind.cells)),(1,.fn (.func 240) [] [.ie [.val (.string (kindName n))]]),(7,.i g.kinds.l),(8,.i y)]) (λy=>[]) (λy=>0<=y/\y<=n) (λy=>(g.kinds.l-y).n) ?_ ?_
 .simp;omega
 rintro i ⟨i0,c⟩;have hi:i<g.kinds.l:=U;simp[hi];refine gU ?_;refine Yc (f188 (gt g.kinds i) (kindName n)) ?_;simp;have a:=hg.names i i0 hi
 by_cases iG:i=n
 .subst iG;simp[a]
 .have b:¬kindName i=kindName n:=by unfold kindName;have:i=0:=U;rw[if_pos this,if_neg U];decide
  simp[a,b];refine gU ?_;refine LJ.e (i+1) ?_;exact nE
def f142(g:gY)(hg:iE g)(n:Int)(a:0<=n/\n<g.kinds.l):Wf T 177 [dG g,.val (.string (kindName n))] [] (Is (.i n)):=by refine Yg NL ?_;simp[NL];refine Yr (f187 g hg n a) ?_;simp
def f189(g:gY)(hg:iE g)(l:List (List gT))(hl:∀x∈l,zK g x)(b:l.l<=4):Wf T 241 [dN 1 fP l,.fn (.func 174) [] [.ie g.cells]] [] (Is (.i (-1))):=by
 refine Yg N' ?_;simp[N'];refine gZ.e (0:Int) (λy=>[(0,dN 1 fP l),(1,.fn (.func 174) [] [.ie g.cells]),(7,.i l.l),(8,.i y)]) (λy=>[]) (λy=>0<=y/\y<=l.l) (λy=>(l.l-y).n) ?_ ?_
 .simp
 rintro i ⟨i0,a⟩
 by_cases hi:i<l.l
 .simp[hi];refine gU ?_;refine Yc (f139 g hg (gt l i) (hl _ (ij i0 hi))) ?_;simp;refine gU ?_;refine LJ.e (i+1) ?_;exact nE
 .simp[hi]
def f143(g:gY)(hg:iE g)(l:List (List gT))(hl:∀x∈l,zK g x)(a:l.l<=4):Wf T 178 [dN 1 fP l,.fn (.func 174) [] [.ie g.cells]] [] (Is (.b false)):=by refine Yg NM ?_;simp[NM];refine Yc (f189 g hg l hl a) ?_;simp
def f146(g:gY)(hg:iE g)(c:Clause)(a:Fe g c):Wf T 181 [dG g,.agg c.cells] [] (Is (.b true)):=by
 have h1:=a.ok;have b:=a.out;refine Yg NP ?_;simp[NP];refine gU ?_
 all_goals
  refine ik.r rfl rfl (f138 c.out) gP (by simp[flat]) gP ?_;simp[b.1,b.2];exact oS
def f145(g:gY)(hg:iE g)(c:Clause)(a:Fe g c):Wf T 180 [.agg c.cells,.ie g.cells] [] (Is (.b false)):=by refine Yg NO ?_;simp[NO];refine Yc (f146 g hg c a) ?_;simp
def f190(g:gY)(hg:iE g)(l:List Clause)(hl:∀x∈l,Fe g x)(b:l.l<=4):Wf T 242 [dN 4 Clause.cells l,.fn (.func 180) [] [.ie g.cells]] [] (Is (.i (-1))):=by
 refine Yg Oa ?_;simp[Oa];refine gZ.e (0:Int) (λy=>[(0,dN 4 Clause.cells l),(1,.fn (.func 180) [] [.ie g.cells]),(7,.i l.l),(8,.i y)]) (λy=>[]) (λy=>0<=y/\y<=l.l) (λy=>(l.l-y).n) ?_ ?_
 .simp
 rintro i ⟨i0,a⟩
 by_cases hi:i<l.l
 .simp[hi];refine gU ?_;refine Yc (f145 g hg (gt l i) (hl _ (ij i0 hi))) ?_;simp;refine gU ?_;refine LJ.e (i+1) ?_;exact nE
 .simp[hi]
def f144(g:gY)(hg:iE g)(l:List Clause)(hl:∀x∈l,Fe g x)(a:l.l<=4):Wf T 179 [dN 4 Clause.cells l,.fn (.func 180) [] [.ie g.cells]] [] (Is (.b false)):=by refine Yg NN ?_;simp[NN];refine Yc (f190 g hg l hl a) ?_;simp
def f98(g:gY)(hg:iE g):Wf T 110 [dG g] [] (Is (.b true)):=by
 have h:=hg.kinds;have f:=hg.iw;have j:=hg.clauses;have d:=hg.blocked;have c:=hg.oV;refine Yg Po ?_;simp[Po];refine Yc (f137 g hg.kC) ?_;simp;refine gU ?_;refine ik.r rfl rfl (f138 g.blocked) gP (by simp[flat]) gP ?_;simp[d];refine gU ?_;refine ik.r rfl rfl (f138 g.oV) gP (by simp[flat]) gP ?_;simp[c];refine gU ?_;refine gZ.e (0:Int) (λy=>[(1,.ptr 0 0 0),(51,.sl 3 (g.kinds.map Kind.cells)),(52,.i g.kinds.l),(53,.i y)]) (λy=>[.row 43 0 g.cells]) (λy=>0<=y/\y<=g.kinds.l) (λy=>(g.kinds.l-y).n) ?_ ?_
 .simp
 rintro i ⟨i0,e⟩
 by_cases hi:i<g.kinds.l
 .have a:=hg.names i i0 hi;have b:=hg.jv _ (ij i0 hi);simp[hi,a];refine jM a ?_;refine ik.r rfl rfl (f141 i) gP (by simp[flat]) gP ?_;simp[a];refine jM a ?_;refine ik.r rfl rfl (f142 g hg i ⟨i0,hi⟩) gP (by simp[flat]) gP ?_;simp[a];refine jM a ?_;refine Yr (f143 g hg _ b.2 b.1) ?_;simp;refine gU ?_;refine LJ.e (i+1) ?_;exact nE
 .simp[hi];refine gU ?_;refine Yr (f144 g hg _ hg.clause U) ?_;simp
