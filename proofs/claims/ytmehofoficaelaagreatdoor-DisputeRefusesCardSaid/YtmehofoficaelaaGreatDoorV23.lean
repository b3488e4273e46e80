/- 23 -/
import Derived.Test.YtmehofoficaelaaGreatDoorV16
set_option linter.all false
open List renaming length→List.l
open Int renaming toNat→Int.n
namespace Go.Proofs.YtmehofoficaelaaGreatDoor
open Go Go.AL Classical
set_option maxRecDepth 100000
set_option maxHeartbeats 4000000
def f179(n a b:Int):Wf T 231 [.i n,.i a,.i b] [] (Is (.b (decide (a<=n/\n<=b)))):=by
 refine Yg KM ?_;simp[KM];exact mI
 all_goals simp[*]
def f180(g:gq)(hg:oU g)(n:Int)(a : -1<=n/\n<g.size):Wf T 232 [.i n,.gC [.fn (.func 231) [] []],.gC [.i g.size,.sl 1 (g.next.map fI),dI g.jD]] [] (Is (.b false)):=by have hs:=hg.size;refine Yg KN ?_;simp[KN];refine gh ?_;refine Yc (f179 n (-1) (g.size-1)) ?_;simp[(U:-1<=n/\n<=g.size-1)]
def aeR(g:gq)(hg:oU g)(l:List Int)(hl:∀n∈l,-1<=n/\n<g.size)(b:l.l<=9):Wf T 230 [dI l,.fn (.func 232) [] [.gC [.fn (.func 231) [] []],.gC [.i g.size,.sl 1 (g.next.map fI),dI g.jD]]] [] (Is (.i (-1))):=by
 refine Yg Da ?_;simp[Da];refine gx.e (0:Int) (λy=>[(0,dI l),(1,.fn (.func 232) [] [.gC [.fn (.func 231) [] []],.gC [.i g.size,.sl 1 (g.next.map fI),dI g.jD]]),(7,.i l.l),(8,.i y)]) (λy=>[]) (λy=>0<=y/\y<=l.l) (λy=>(l.l-y).n) ?_ ?_
 .simp
 rintro i ⟨i0,a⟩
 by_cases hi:i<l.l
 .simp[hi];refine gh ?_;refine Yc (f180 g hg (gt l i) (hl _ (gF i0 hi))) ?_;simp;refine gh ?_;refine LJ.e (i+1) ?_;exact mF
 .simp[hi]
def aeP(g:gq)(hg:oU g)(l:List Int)(hl:∀n∈l,-1<=n/\n<g.size)(a:l.l<=9):Wf T 170 [dI l,.fn (.func 232) [] [.gC [.fn (.func 231) [] []],.gC [.i g.size,.sl 1 (g.next.map fI),dI g.jD]]] [] (Is (.b false)):=by refine Yg C' ?_;simp[C'];refine Yc (aeR g hg l hl a) ?_;simp
def f137(g:gq)(hg:oU g):Wf T 172 [g.jU] [] (Is (.b true)):=by
 have hs:=hg.size;have b:=hg.next
 have a:=hg.jD;refine Yg Kr ?_;simp[Kr,b];refine Yc (f179 g.size 1 64) ?_;simp[(U:1<=g.size/\g.size<=64)];refine Yc (f179 8 1 8) ?_;simp;refine kP b a ?_;refine gx.e (0:Int) (λy=>[(1,.ptr 0 0 0),(3,.i 8),(4,.ptr 1 0 0),(29,.sl 1 (g.next.map fI)),(30,.i 8),(31,.i y)]) (λy=>[.row 39 0 [.i g.size,.sl 1 (g.next.map fI),dI g.jD],.row 345 0 [.fn (.func 231) [] []]]) (λy=>0<=y/\y<=8) (λy=>(8-y).n) ?_ ?_
 .simp
 rintro i ⟨i0,e⟩
 by_cases hi:i<8
 .have c:=hg.row _ (gF (l:=g.next) i0 U);have d:=hg.turns i i0 hi;simp[hi,c.1,b];refine kP c.1 b ?_;refine Yr (aeP g hg _ c.2 U) ?_;simp;refine jT a ?_;refine Yt (f179 (gt g.jD i) 0 7) ?_;simp[(U:0<=gt g.jD i/\gt g.jD i<=7),a,d.2.2];refine kP a d.2.2 ?_;refine LJ.e (i+1) ?_;exact mF
 .simp[hi]
def f138(n:Int):Wf T 173 [.i n] [] (Is (.b (decide (1<=n/\n<=3)))):=by
 refine Yg Ks ?_;simp[Ks];exact mI
 all_goals simp[*]
def Co(n:Int):Int:=if n=1\/n=2\/n=7 then 1 else if n=8 then 2 else if n=9\/n=10 then 3 else 0
def f182(n:Int)(b:1<=n/\n<=10):∃a,Wf T 234 [.i n] [] (Is (.tup [.agg [.val (.string a),.i (Co n)],.b true])):=by
 rcases(U:n=1\/n=2\/n=3\/n=4\/n=5\/n=6\/n=7\/n=8\/n=9\/n=10)with rfl|rfl|rfl|rfl|rfl|rfl|rfl|rfl|rfl|rfl
 .exact⟨⟨#[103,111]⟩,pc (k:=40) gu⟩
 .exact⟨⟨#[115,108,105,100,101]⟩,pc (k:=40) gu⟩
 .exact⟨⟨#[101,109,112,116,121]⟩,pc (k:=40) gu⟩
 .exact⟨⟨#[101,110,101,109,121]⟩,pc (k:=40) gu⟩
 .exact⟨⟨#[102,114,105,101,110,100]⟩,pc (k:=40) gu⟩
 .exact⟨⟨#[116,97,107,101]⟩,pc (k:=40) gu⟩
 .exact⟨⟨#[112,117,115,104]⟩,pc (k:=40) gu⟩
 .exact⟨⟨#[98,101,99,111,109,101]⟩,pc (k:=40) gu⟩
 .exact⟨⟨#[110,101,101,100]⟩,pc (k:=40) gu⟩
 .exact⟨⟨#[108,111,115,101]⟩,pc (k:=40) gu⟩
def f181(kinds gO:Int)(x:gg)(a:sU 8 kinds gO x):Wf T 233 [.agg [.i x.1,.i x.2],.gC [.i 1,.i 8,.i kinds,.i gO]] [] (Is (.b false)):=by
 have h1:1<=x.1/\x.1<=10:=by unfold sU at a;omega
 obtain⟨d,c⟩:=f182 x.1 h1
 have b:(Co x.1=1/\0<=x.2/\x.2<8)\/(Co x.1=0/\0<=x.2/\x.2<1)\/(Co x.1=2/\0<=x.2/\x.2<kinds)\/(Co x.1=3/\0<=x.2/\x.2<gO):=by unfold sU at a;unfold Co;(repeat' split)<;>omega
 generalize Co x.1=k at c b;rcases b with⟨rfl,h⟩|⟨rfl,h⟩|⟨rfl,h⟩|⟨rfl,h⟩
 all_goals
  refine Yg KP ?_;simp[KP];refine Yc (c) ?_;simp;exact mI
def f225(kinds gO:Int)(l:List gg)(hl:∀x∈l,sU 8 kinds gO x)(b:l.l<=8):Wf T 280 [iw l,.fn (.func 233) [] [.gC [.i 1,.i 8,.i kinds,.i gO]]] [] (Is (.i (-1))):=by
 refine Yg Ld ?_;simp[Ld];refine gx.e (0:Int) (λy=>[(0,iw l),(1,.fn (.func 233) [] [.gC [.i 1,.i 8,.i kinds,.i gO]]),(7,.i l.l),(8,.i y)]) (λy=>[]) (λy=>0<=y/\y<=l.l) (λy=>(l.l-y).n) ?_ ?_
 .simp
 rintro i ⟨i0,a⟩
 by_cases hi:i<l.l
 .simp[hi];refine gh ?_;refine Yc (f181 kinds gO (gt l i) (hl _ (gF i0 hi))) ?_;simp;refine gh ?_;refine LJ.e (i+1) ?_;exact mF
 .simp[hi]
def f183(kinds gO:Int)(l:List gg)(hl:∀x∈l,sU 8 kinds gO x)(a:l.l<=8):Wf T 235 [iw l,.fn (.func 233) [] [.gC [.i 1,.i 8,.i kinds,.i gO]]] [] (Is (.b false)):=by refine Yg KQ ?_;simp[KQ];refine Yc (f225 kinds gO l hl a) ?_;simp
def f184(l:List gg)(f:l.l<=8)(n:Int):Wf T 236 [iw l,.i n] [] (Is (.i (oW l n))):=by
 refine Yg KR ?_;simp[KR];refine gx.e ((0,0):Int×Int) (λy=>[(1,.i n),(5,.i y.2),(8,iw l),(9,.i l.l),(10,.i y.1)]) (λy=>[]) (λy=>0<=y.1/\y.1<=l.l/\y.2=oW (l.take y.1.n) n/\0<=y.2/\y.2<=y.1) (λy=>(l.l-y.1).n) ?_ ?_
 .simp[oW]
 rintro⟨i,c⟩ ⟨i0,e,a,d,b⟩;dsimp only at i0 e a d b ⊢
 by_cases hi:i<l.l
 .simp[hi];refine kj ?_ ?_<;>intro h
  .refine LJ.e (i+1,c+1) ?_;refine⟨gJ,gJ,gJ,?_,gJ,gJ⟩;dsimp only;rw[jt i0 hi,Gm,<-a,if_pos jZ]
  .refine LJ.e (i+1,c) ?_;refine⟨gJ,gJ,gJ,?_,gJ,gJ⟩;dsimp only;rw[jt i0 hi,Gm,<-a,if_neg jZ];omega
 .simp[hi];rw[a,lC U]
def f140(g:gq)(hg:gR g)(l:List gg)(hl:xO g l):Wf T 175 [iw l,.i 8,.i g.kinds.l,.i g.gO] [] (Is (.b true)):=by have h1:=hl.len;have c:=hl.uv;have b:=hl.push;have a:=hl.Mm;refine Yg Ku ?_;simp[Ku];refine gh ?_;refine Yr (f183 g.kinds.l g.gO l (λx d=>(hl.steps x d).ok) h1.2) ?_;simp;refine gh ?_;refine Yc (f184 l h1.2 6) ?_;simp;refine nL c b a ?_;refine Yc (f184 l h1.2 7) ?_;simp;refine nL c b a ?_;refine Yc (f184 l h1.2 8) ?_;simp;exact abL c b a
def f139(g:gq)(hg:gR g)(l:List gg)(hl:xO g l):Wf T 174 [iw l,.gC g.cells] [] (Is (.b false)):=by
 have h1:=hg.jU.next
 refine Yg Kt ?_;simp[Kt,h1];refine Yc (f140 g hg l hl) ?_;simp
def ant:Wf T 176 [.val (.string ⟨#[97]⟩)] [] (Is (.b true)):=pc (k:=100) gu
def anu:Wf T 176 [.val (.string ⟨#[98,101,101]⟩)] [] (Is (.b true)):=pc (k:=100) gu
def f141(n:Int):Wf T 176 [.val (.string (kindName n))] [] (Is (.b true)):=by
 unfold kindName;split
 .exact ant
 .exact anu
def f188(k:Kind)(s:ByteArray):Wf T 240 [.agg k.cells,.gC [.val (.string s)]] [] (Is (.b (decide (k.name=s)))):=by refine Yg KU ?_;simp[KU]
def f187(g:gq)(hg:gR g)(n:Int)(e:0<=n/\n<g.kinds.l):Wf T 239 [.sl 3 (g.kinds.map Kind.cells),.fn (.func 240) [] [.gC [.val (.string (kindName n))]]] [] (Is (.i n)):=by
 have f:=hg.kinds;refine Yg KT ?_;simp[KT];refine gx.e (0:Int) (λy=>[(0,.sl 3 (g.kinds.map Kind.cells)),(1,.fn (.func 240) [] [.gC [.val (.string (kindName n))]]),(7,.i g.kinds.l),(8,.i y)]) (λy=>[]) (λy=>0<=y/\y<=n) (λy=>(g.kinds.l-y).n) ?_ ?_
 .simp;omega
 rintro i ⟨i0,d⟩;have hi:i<g.kinds.l:=U;simp[hi];refine gh ?_;refine Yc (f188 (gt g.kinds i) (kindName n)) ?_;simp;have a:=hg.names i i0 hi
 by_cases b:i=n
 .subst b;simp[a]
 .have c:¬kindName i=kindName n:=by unfold kindName;have:i=0:=U;rw[if_pos this,if_neg U];decide
  simp[a,c];refine gh ?_;refine LJ.e (i+1) ?_;exact mF
def f142(g:gq)(hg:gR g)(n:Int)(a:0<=n/\n<g.kinds.l):Wf T 177 [dG g,.val (.string (kindName n))] [] (Is (.i n)):=by refine Yg Kv ?_;simp[Kv];refine Yr (f187 g hg n a) ?_;simp
def f189(g:gq)(hg:gR g)(l:List (List gg))(hl:∀x∈l,xO g x)(b:l.l<=4):Wf T 241 [dN 1 fP l,.fn (.func 174) [] [.gC g.cells]] [] (Is (.i (-1))):=by
 refine Yg KV ?_;simp[KV];refine gx.e (0:Int) (λy=>[(0,dN 1 fP l),(1,.fn (.func 174) [] [.gC g.cells]),(7,.i l.l),(8,.i y)]) (λy=>[]) (λy=>0<=y/\y<=l.l) (λy=>(l.l-y).n) ?_ ?_
 .simp
 rintro i ⟨i0,a⟩
 by_cases hi:i<l.l
 .simp[hi];refine gh ?_;refine Yc (f139 g hg (gt l i) (hl _ (gF i0 hi))) ?_;simp;refine gh ?_;refine LJ.e (i+1) ?_;exact mF
 .simp[hi]
def f143(g:gq)(hg:gR g)(l:List (List gg))(hl:∀x∈l,xO g x)(a:l.l<=4):Wf T 178 [dN 1 fP l,.fn (.func 174) [] [.gC g.cells]] [] (Is (.b false)):=by refine Yg Kw ?_;simp[Kw];refine Yc (f189 g hg l hl a) ?_;simp
def f146(g:gq)(hg:gR g)(c:Clause)(a:CW g c):Wf T 181 [dG g,.agg c.cells] [] (Is (.b true)):=by
 have h1:=a.ok;have b:=a.out;refine Yg Kz ?_;simp[Kz];refine gh ?_
 all_goals
  refine gy.r rfl rfl (f138 c.out) fZ (by simp[flat]) fZ ?_;simp[b.1,b.2];exact mI
def f145(g:gq)(hg:gR g)(c:Clause)(a:CW g c):Wf T 180 [.agg c.cells,.gC g.cells] [] (Is (.b false)):=by refine Yg Ky ?_;simp[Ky];refine Yc (f146 g hg c a) ?_;simp
def f190(g:gq)(hg:gR g)(l:List Clause)(hl:∀x∈l,CW g x)(b:l.l<=4):Wf T 242 [dN 4 Clause.cells l,.fn (.func 180) [] [.gC g.cells]] [] (Is (.i (-1))):=by
 refine Yg KW ?_;simp[KW];refine gx.e (0:Int) (λy=>[(0,dN 4 Clause.cells l),(1,.fn (.func 180) [] [.gC g.cells]),(7,.i l.l),(8,.i y)]) (λy=>[]) (λy=>0<=y/\y<=l.l) (λy=>(l.l-y).n) ?_ ?_
 .simp
 rintro i ⟨i0,a⟩
 by_cases hi:i<l.l
 .simp[hi];refine gh ?_;refine Yc (f145 g hg (gt l i) (hl _ (gF i0 hi))) ?_;simp;refine gh ?_;refine LJ.e (i+1) ?_;exact mF
 .simp[hi]
def f144(g:gq)(hg:gR g)(l:List Clause)(hl:∀x∈l,CW g x)(a:l.l<=4):Wf T 179 [dN 4 Clause.cells l,.fn (.func 180) [] [.gC g.cells]] [] (Is (.b false)):=by refine Yg Kx ?_;simp[Kx];refine Yc (f190 g hg l hl a) ?_;simp
def f98(g:gq)(hg:gR g):Wf T 110 [dG g] [] (Is (.b true)):=by
 have h:=hg.kinds;have f:=hg.gO;have j:=hg.clauses;have d:=hg.blocked;have c:=hg.vo;refine Yg Mc ?_;simp[Mc];refine Yc (f137 g hg.jU) ?_;simp;refine gh ?_;refine gy.r rfl rfl (f138 g.blocked) fZ (by simp[flat]) fZ ?_;simp[d];refine gh ?_;refine gy.r rfl rfl (f138 g.vo) fZ (by simp[flat]) fZ ?_;simp[c];refine gh ?_;refine gx.e (0:Int) (λy=>[(1,.ptr 0 0 0),(51,.sl 3 (g.kinds.map Kind.cells)),(52,.i g.kinds.l),(53,.i y)]) (λy=>[.row 43 0 g.cells]) (λy=>0<=y/\y<=g.kinds.l) (λy=>(g.kinds.l-y).n) ?_ ?_
 .simp
 rintro i ⟨i0,e⟩
 by_cases hi:i<g.kinds.l
 .have a:=hg.names i i0 hi;have b:=hg.jA _ (gF i0 hi);simp[hi,a];refine jT a ?_;refine gy.r rfl rfl (f141 i) fZ (by simp[flat]) fZ ?_;simp[a];refine jT a ?_;refine gy.r rfl rfl (f142 g hg i ⟨i0,hi⟩) fZ (by simp[flat]) fZ ?_;simp[a];refine jT a ?_;refine Yr (f143 g hg _ b.2 b.1) ?_;simp;refine gh ?_;refine LJ.e (i+1) ?_;exact mF
 .simp[hi];refine gh ?_;refine Yr (f144 g hg _ hg.clause U) ?_;simp
