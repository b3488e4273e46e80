/- Part 23 of DisputeMatchesReference. -/
import Derived.Test.YtmehofoficaelaaGreatDoorM16
set_option linter.all false
open List renaming length→List.l
open Int renaming toNat→Int.n
namespace Go.Proofs.YtmehofoficaelaaGreatDoor
open Go Go.AL Classical
set_option maxRecDepth 100000
set_option maxHeartbeats 4000000
def f179(n a b:Int):Wf T 231 [.i n,.i a,.i b] [] (Is (.b (decide (a<=n/\n<=b)))):=by
 refine Yg L8 ?_;simp[L8];exact nb
 all_goals simp[*]
def f180(g:gv)(hg:pL g)(n:Int)(a : -1<=n/\n<g.size):Wf T 232 [.i n,.gH [.fn (.func 231) [] []],.gH [.i g.size,.sl 1 (g.next.map fI),dI g.jS]] [] (Is (.b false)):=by have hs:=hg.size;refine Yg L9 ?_;simp[L9];refine gi ?_;refine Yc (f179 n (-1) (g.size-1)) ?_;simp[(U:-1<=n/\n<=g.size-1)]
def agq(g:gv)(hg:pL g)(l:List Int)(hl:∀n∈l,-1<=n/\n<g.size)(b:l.l<=9):Wf T 230 [dI l,.fn (.func 232) [] [.gH [.fn (.func 231) [] []],.gH [.i g.size,.sl 1 (g.next.map fI),dI g.jS]]] [] (Is (.i (-1))):=by
 refine Yg Eg ?_;simp[Eg];refine gx.e (0:Int) (λy=>[(0,dI l),(1,.fn (.func 232) [] [.gH [.fn (.func 231) [] []],.gH [.i g.size,.sl 1 (g.next.map fI),dI g.jS]]),(7,.i l.l),(8,.i y)]) (λy=>[]) (λy=>0<=y/\y<=l.l) (λy=>(l.l-y).n) ?_ ?_
 .simp
 rintro i ⟨i0,a⟩
 by_cases hi:i<l.l
 .simp[hi];refine gi ?_;refine Yc (f180 g hg (gt l i) (hl _ (gF i0 hi))) ?_;simp;refine gi ?_;refine LJ.e (i+1) ?_;exact mw
 .simp[hi]
def ago(g:gv)(hg:pL g)(l:List Int)(hl:∀n∈l,-1<=n/\n<g.size)(a:l.l<=9):Wf T 170 [dI l,.fn (.func 232) [] [.gH [.fn (.func 231) [] []],.gH [.i g.size,.sl 1 (g.next.map fI),dI g.jS]]] [] (Is (.b false)):=by refine Yg Ee ?_;simp[Ee];refine Yc (agq g hg l hl a) ?_;simp
def f137(g:gv)(hg:pL g):Wf T 172 [g.ki] [] (Is (.b true)):=by
 have hs:=hg.size;have c:=hg.next
 have b:=hg.jS;refine Yg LI ?_;simp[LI,c];refine Yc (f179 g.size 1 64) ?_;simp[(U:1<=g.size/\g.size<=64)];refine Yc (f179 8 1 8) ?_;simp;refine jT c b ?_;refine gx.e (0:Int) (λy=>[(1,.ptr 0 0 0),(3,.i 8),(4,.ptr 1 0 0),(29,.sl 1 (g.next.map fI)),(30,.i 8),(31,.i y)]) (λy=>[.row 39 0 [.i g.size,.sl 1 (g.next.map fI),dI g.jS],.row 345 0 [.fn (.func 231) [] []]]) (λy=>0<=y/\y<=8) (λy=>(8-y).n) ?_ ?_
 .simp
 rintro i ⟨i0,e⟩
 by_cases hi:i<8
 .have d:=hg.row _ (gF (l:=g.next) i0 U);have a:=hg.turns i i0 hi;simp[hi,d.1,c];refine jT d.1 c ?_;refine Yr (ago g hg _ d.2 U) ?_;simp;refine iU b ?_;refine Yt (f179 (gt g.jS i) 0 7) ?_;simp[(U:0<=gt g.jS i/\gt g.jS i<=7),b,a.2.2];refine jT b a.2.2 ?_;refine LJ.e (i+1) ?_;exact mw
 .simp[hi]
def f138(n:Int):Wf T 173 [.i n] [] (Is (.b (decide (1<=n/\n<=3)))):=by
 refine Yg LK ?_;simp[LK];exact nb
 all_goals simp[*]
def DA(n:Int):Int:=if n=1\/n=2\/n=7 then 1 else if n=8 then 2 else if n=9\/n=10 then 3 else 0
def f182(n:Int)(b:1<=n/\n<=10):∃a,Wf T 234 [.i n] [] (Is (.tup [.agg [.val (.string a),.i (DA n)],.b true])):=by
 rcases(U:n=1\/n=2\/n=3\/n=4\/n=5\/n=6\/n=7\/n=8\/n=9\/n=10)with rfl|rfl|rfl|rfl|rfl|rfl|rfl|rfl|rfl|rfl
 .exact⟨⟨#[103,111]⟩,p7 (k:=40) gw⟩
 .exact⟨⟨#[115,108,105,100,101]⟩,p7 (k:=40) gw⟩
 .exact⟨⟨#[101,109,112,116,121]⟩,p7 (k:=40) gw⟩
 .exact⟨⟨#[101,110,101,109,121]⟩,p7 (k:=40) gw⟩
 .exact⟨⟨#[102,114,105,101,110,100]⟩,p7 (k:=40) gw⟩
 .exact⟨⟨#[116,97,107,101]⟩,p7 (k:=40) gw⟩
 .exact⟨⟨#[112,117,115,104]⟩,p7 (k:=40) gw⟩
 .exact⟨⟨#[98,101,99,111,109,101]⟩,p7 (k:=40) gw⟩
 .exact⟨⟨#[110,101,101,100]⟩,p7 (k:=40) gw⟩
 .exact⟨⟨#[108,111,115,101]⟩,p7 (k:=40) gw⟩
def f181(kinds gX:Int)(x:gj)(a:uf 8 kinds gX x):Wf T 233 [.agg [.i x.1,.i x.2],.gH [.i 1,.i 8,.i kinds,.i gX]] [] (Is (.b false)):=by
 have h1:1<=x.1/\x.1<=10:=by unfold uf at a;omega
 obtain⟨d,c⟩:=f182 x.1 h1
 have b:(DA x.1=1/\0<=x.2/\x.2<8)\/(DA x.1=0/\0<=x.2/\x.2<1)\/(DA x.1=2/\0<=x.2/\x.2<kinds)\/(DA x.1=3/\0<=x.2/\x.2<gX):=by unfold uf at a;unfold DA;(repeat' split)<;>omega
 generalize DA x.1=k at c b;rcases b with⟨rfl,h⟩|⟨rfl,h⟩|⟨rfl,h⟩|⟨rfl,h⟩
 all_goals
  refine Yg Ma ?_;simp[Ma];refine Yc (c) ?_;simp;exact nb
def f225(kinds gX:Int)(l:List gj)(hl:∀x∈l,uf 8 kinds gX x)(b:l.l<=8):Wf T 280 [iu l,.fn (.func 233) [] [.gH [.i 1,.i 8,.i kinds,.i gX]]] [] (Is (.i (-1))):=by
 refine Yg Mv ?_;simp[Mv];refine gx.e (0:Int) (λy=>[(0,iu l),(1,.fn (.func 233) [] [.gH [.i 1,.i 8,.i kinds,.i gX]]),(7,.i l.l),(8,.i y)]) (λy=>[]) (λy=>0<=y/\y<=l.l) (λy=>(l.l-y).n) ?_ ?_
 .simp
 rintro i ⟨i0,a⟩
 by_cases hi:i<l.l
 .simp[hi];refine gi ?_;refine Yc (f181 kinds gX (gt l i) (hl _ (gF i0 hi))) ?_;simp;refine gi ?_;refine LJ.e (i+1) ?_;exact mw
 .simp[hi]
def f183(kinds gX:Int)(l:List gj)(hl:∀x∈l,uf 8 kinds gX x)(a:l.l<=8):Wf T 235 [iu l,.fn (.func 233) [] [.gH [.i 1,.i 8,.i kinds,.i gX]]] [] (Is (.b false)):=by refine Yg Mb ?_;simp[Mb];refine Yc (f225 kinds gX l hl a) ?_;simp
def f184(l:List gj)(f:l.l<=8)(n:Int):Wf T 236 [iu l,.i n] [] (Is (.i (pO l n))):=by
 refine Yg Mc ?_;simp[Mc];refine gx.e ((0,0):Int×Int) (λy=>[(1,.i n),(5,.i y.2),(8,iu l),(9,.i l.l),(10,.i y.1)]) (λy=>[]) (λy=>0<=y.1/\y.1<=l.l/\y.2=pO (l.take y.1.n) n/\0<=y.2/\y.2<=y.1) (λy=>(l.l-y.1).n) ?_ ?_
 .simp[pO]
 rintro⟨i,c⟩ ⟨i0,e,a,d,b⟩;dsimp only at i0 e a d b ⊢
 by_cases hi:i<l.l
 .simp[hi];refine kz ?_ ?_<;>intro h
  .refine LJ.e (i+1,c+1) ?_;refine⟨gI,gI,gI,?_,gI,gI⟩;dsimp only;rw[jI i0 hi,HD,<-a,if_pos jX]
  .refine LJ.e (i+1,c) ?_;refine⟨gI,gI,gI,?_,gI,gI⟩;dsimp only;rw[jI i0 hi,HD,<-a,if_neg jX];omega
 .simp[hi];rw[a,lW U]
def f140(g:gv)(hg:gZ g)(l:List gj)(hl:yT g l):Wf T 175 [iu l,.i 8,.i g.kinds.l,.i g.gX] [] (Is (.b true)):=by have h1:=hl.len;have c:=hl.vK;have b:=hl.push;have a:=hl.NB;refine Yg LO ?_;simp[LO];refine gi ?_;refine Yr (f183 g.kinds.l g.gX l (λx d=>(hl.steps x d).ok) h1.2) ?_;simp;refine gi ?_;refine Yc (f184 l h1.2 6) ?_;simp;refine kG c b a ?_;refine Yc (f184 l h1.2 7) ?_;simp;refine kG c b a ?_;refine Yc (f184 l h1.2 8) ?_;simp;exact adl c b a
def f139(g:gv)(hg:gZ g)(l:List gj)(hl:yT g l):Wf T 174 [iu l,.gH g.cells] [] (Is (.b false)):=by
 have h1:=hg.ki.next
 refine Yg LL ?_;simp[LL,h1];refine Yc (f140 g hg l hl) ?_;simp
def apd:Wf T 176 [.val (.string ⟨#[97]⟩)] [] (Is (.b true)):=p7 (k:=100) gw
def ape:Wf T 176 [.val (.string ⟨#[98,101,101]⟩)] [] (Is (.b true)):=p7 (k:=100) gw
def f141(n:Int):Wf T 176 [.val (.string (kindName n))] [] (Is (.b true)):=by
 unfold kindName;split
 .exact apd
 .exact ape
def f188(k:Kind)(s:ByteArray):Wf T 240 [.agg k.cells,.gH [.val (.string s)]] [] (Is (.b (decide (k.name=s)))):=by refine Yg Me ?_;simp[Me]
def f187(g:gv)(hg:gZ g)(n:Int)(d:0<=n/\n<g.kinds.l):Wf T 239 [.sl 3 (g.kinds.map Kind.cells),.fn (.func 240) [] [.gH [.val (.string (kindName n))]]] [] (Is (.i n)):=by
 have e:=hg.kinds;refine Yg Md ?_;simp[Md];refine gx.e (0:Int) (λy=>[(0,.sl 3 (g.kinds.map Kind.cells)),(1,.fn (.func 240) [] [.gH [.val (.string (kindName n))]]),(7,.i g.kinds.l),(8,.i y)]) (λy=>[]) (λy=>0<=y/\y<=n) (λy=>(g.kinds.l-y).n) ?_ ?_
 .simp;omega
 rintro i ⟨i0,c⟩;have hi:i<g.kinds.l:=U;simp[hi];refine gi ?_;refine Yc (f188 (gt g.kinds i) (kindName n)) ?_;simp;have a:=hg.names i i0 hi
 by_cases gQ:i=n
 .subst gQ;simp[a]
 .have b:¬kindName i=kindName n:=by unfold kindName;have:i=0:=U;rw[if_pos this,if_neg U];decide
  simp[a,b];refine gi ?_;refine LJ.e (i+1) ?_;exact mw
def f142(g:gv)(hg:gZ g)(n:Int)(a:0<=n/\n<g.kinds.l):Wf T 177 [dG g,.val (.string (kindName n))] [] (Is (.i n)):=by refine Yg LP ?_;simp[LP];refine Yr (f187 g hg n a) ?_;simp
def f189(g:gv)(hg:gZ g)(l:List (List gj))(hl:∀x∈l,yT g x)(b:l.l<=4):Wf T 241 [dN 1 fP l,.fn (.func 174) [] [.gH g.cells]] [] (Is (.i (-1))):=by
 refine Yg Mf ?_;simp[Mf];refine gx.e (0:Int) (λy=>[(0,dN 1 fP l),(1,.fn (.func 174) [] [.gH g.cells]),(7,.i l.l),(8,.i y)]) (λy=>[]) (λy=>0<=y/\y<=l.l) (λy=>(l.l-y).n) ?_ ?_
 .simp
 rintro i ⟨i0,a⟩
 by_cases hi:i<l.l
 .simp[hi];refine gi ?_;refine Yc (f139 g hg (gt l i) (hl _ (gF i0 hi))) ?_;simp;refine gi ?_;refine LJ.e (i+1) ?_;exact mw
 .simp[hi]
def f143(g:gv)(hg:gZ g)(l:List (List gj))(hl:∀x∈l,yT g x)(a:l.l<=4):Wf T 178 [dN 1 fP l,.fn (.func 174) [] [.gH g.cells]] [] (Is (.b false)):=by refine Yg LQ ?_;simp[LQ];refine Yc (f189 g hg l hl a) ?_;simp
def f146(g:gv)(hg:gZ g)(c:Clause)(a:D2 g c):Wf T 181 [dG g,.agg c.cells] [] (Is (.b true)):=by
 have h1:=a.ok;have b:=a.out;refine Yg LV ?_;simp[LV];refine gi ?_
 all_goals
  refine gE.r rfl rfl (f138 c.out) gf (by simp[flat]) gf ?_;simp[b.1,b.2];exact nb
def f145(g:gv)(hg:gZ g)(c:Clause)(a:D2 g c):Wf T 180 [.agg c.cells,.gH g.cells] [] (Is (.b false)):=by refine Yg LU ?_;simp[LU];refine Yc (f146 g hg c a) ?_;simp
def f190(g:gv)(hg:gZ g)(l:List Clause)(hl:∀x∈l,D2 g x)(b:l.l<=4):Wf T 242 [dN 4 Clause.cells l,.fn (.func 180) [] [.gH g.cells]] [] (Is (.i (-1))):=by
 refine Yg Mg ?_;simp[Mg];refine gx.e (0:Int) (λy=>[(0,dN 4 Clause.cells l),(1,.fn (.func 180) [] [.gH g.cells]),(7,.i l.l),(8,.i y)]) (λy=>[]) (λy=>0<=y/\y<=l.l) (λy=>(l.l-y).n) ?_ ?_
 .simp
 rintro i ⟨i0,a⟩
 by_cases hi:i<l.l
 .simp[hi];refine gi ?_;refine Yc (f145 g hg (gt l i) (hl _ (gF i0 hi))) ?_;simp;refine gi ?_;refine LJ.e (i+1) ?_;exact mw
 .simp[hi]
def f144(g:gv)(hg:gZ g)(l:List Clause)(hl:∀x∈l,D2 g x)(a:l.l<=4):Wf T 179 [dN 4 Clause.cells l,.fn (.func 180) [] [.gH g.cells]] [] (Is (.b false)):=by refine Yg LR ?_;simp[LR];refine Yc (f190 g hg l hl a) ?_;simp
def f98(g:gv)(hg:gZ g):Wf T 110 [dG g] [] (Is (.b true)):=by
 have h:=hg.kinds;have f:=hg.gX;have j:=hg.clauses;have d:=hg.blocked;have c:=hg.w7;refine Yg Np ?_;simp[Np];refine Yc (f137 g hg.ki) ?_;simp;refine gi ?_;refine gE.r rfl rfl (f138 g.blocked) gf (by simp[flat]) gf ?_;simp[d];refine gi ?_;refine gE.r rfl rfl (f138 g.w7) gf (by simp[flat]) gf ?_;simp[c];refine gi ?_;refine gx.e (0:Int) (λy=>[(1,.ptr 0 0 0),(51,.sl 3 (g.kinds.map Kind.cells)),(52,.i g.kinds.l),(53,.i y)]) (λy=>[.row 43 0 g.cells]) (λy=>0<=y/\y<=g.kinds.l) (λy=>(g.kinds.l-y).n) ?_ ?_
 .simp
 rintro i ⟨i0,e⟩
 by_cases hi:i<g.kinds.l
 .have a:=hg.names i i0 hi;have b:=hg.jN _ (gF i0 hi);simp[hi,a];refine iU a ?_;refine gE.r rfl rfl (f141 i) gf (by simp[flat]) gf ?_;simp[a];refine iU a ?_;refine gE.r rfl rfl (f142 g hg i ⟨i0,hi⟩) gf (by simp[flat]) gf ?_;simp[a];refine iU a ?_;refine Yr (f143 g hg _ b.2 b.1) ?_;simp;refine gi ?_;refine LJ.e (i+1) ?_;exact mw
 .simp[hi];refine gi ?_;refine Yr (f144 g hg _ hg.clause U) ?_;simp
