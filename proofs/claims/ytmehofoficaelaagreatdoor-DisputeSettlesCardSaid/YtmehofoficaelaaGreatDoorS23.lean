/- Part 23 of DisputeSettles. -/
import Derived.Test.YtmehofoficaelaaGreatDoorS16
set_option linter.all false
namespace Go.Proofs.YtmehofoficaelaaGreatDoor
open Go Go.AL Classical
set_option maxRecDepth 100000
set_option maxHeartbeats 4000000
def f179(n a b:Int):Wf T 231 [.i n,.i a,.i b] [] (Is (.b (decide (a<=n/\n<=b)))):=by
 refine Yg Le ?_;simp[Le];exact mQ
 all_goals simp[*]
def f180(g:gj)(hg:oM g)(n:Int)(a : -1<=n/\n<g.size):Wf T 232 [.i n,.gC [.fn (.func 231) [] []],.gC [.i g.size,.sl 1 (g.next.map fI),dI g.jw]] [] (Is (.b false)):=by have hs:=hg.size;refine Yg Lf ?_;simp[Lf];refine gf ?_;refine Yc (f179 n (-1) (g.size-1)) ?_;simp[show -1<=n/\n<=g.size-1 by omega]
def afD(g:gj)(hg:oM g)(l:List Int)(hl:∀n∈l,-1<=n/\n<g.size)(b:l.length<=9):Wf T 230 [dI l,.fn (.func 232) [] [.gC [.fn (.func 231) [] []],.gC [.i g.size,.sl 1 (g.next.map fI),dI g.jw]]] [] (Is (.i (-1))):=by
 refine Yg Dn ?_;simp[Dn];refine gp.e (0:Int) (λy=>[(0,dI l),(1,.fn (.func 232) [] [.gC [.fn (.func 231) [] []],.gC [.i g.size,.sl 1 (g.next.map fI),dI g.jw]]),(7,.i l.length),(8,.i y)]) (λy=>[]) (λy=>0<=y/\y<=l.length) (λy=>(l.length-y).toNat) ?_ ?_
 .simp
 rintro i ⟨i0,a⟩
 by_cases hi:i<l.length
 .simp[hi];refine gf ?_;refine Yc (f180 g hg (gt l i) (hl _ (gA i0 hi))) ?_;simp;refine gf ?_;refine LJ.e (i+1) ?_;exact mj
 .simp[hi]
def afB(g:gj)(hg:oM g)(l:List Int)(hl:∀n∈l,-1<=n/\n<g.size)(a:l.length<=9):Wf T 170 [dI l,.fn (.func 232) [] [.gC [.fn (.func 231) [] []],.gC [.i g.size,.sl 1 (g.next.map fI),dI g.jw]]] [] (Is (.b false)):=by refine Yg Dm ?_;simp[Dm];refine Yc (afD g hg l hl a) ?_;simp
def f137(g:gj)(hg:oM g):Wf T 172 [g.jJ] [] (Is (.b true)):=by
 have hs:=hg.size;have b:=hg.next
 have a:=hg.jw;refine Yg KT ?_;simp[KT,b];refine Yc (f179 g.size 1 64) ?_;simp[show 1<=g.size/\g.size<=64 by omega];refine Yc (f179 8 1 8) ?_;simp;(with_reducible repeat' first|refine Xk ?_<;>try simp[b,a]|refine Xs ?_ ?_<;>intro h<;>(try intro e)<;>(try simp[h,b,a])<;>try omega|refine Xg ?_|omega);refine gp.e (0:Int) (λy=>[(1,.ptr 0 0 0),(3,.i 8),(4,.ptr 1 0 0),(29,.sl 1 (g.next.map fI)),(30,.i 8),(31,.i y)]) (λy=>[.row 39 0 [.i g.size,.sl 1 (g.next.map fI),dI g.jw],.row 345 0 [.fn (.func 231) [] []]]) (λy=>0<=y/\y<=8) (λy=>(8-y).toNat) ?_ ?_
 .simp
 rintro i ⟨i0,f⟩
 by_cases hi:i<8
 .have c:=hg.row _ (gA (l:=g.next) i0 (by omega));have d:=hg.turns i i0 hi;simp[hi,c.1,b];(with_reducible repeat' first|refine Xk ?_<;>try simp[c.1,b]|refine Xs ?_ ?_<;>intro h<;>(try intro e)<;>(try simp[h,c.1,b])<;>try omega|refine Xg ?_|omega);refine Yr (afB g hg _ c.2 (by omega)) ?_;simp;refine jD a ?_;refine Yt (f179 (gt g.jw i) 0 7) ?_;simp[show 0<=gt g.jw i/\gt g.jw i<=7 by omega,a,d.2.2];(with_reducible repeat' first|refine Xk ?_<;>try simp[a,d.2.2]|refine Xs ?_ ?_<;>intro h<;>(try intro e)<;>(try simp[h,a,d.2.2])<;>try omega|refine Xg ?_|omega);refine LJ.e (i+1) ?_;exact mj
 .simp[hi]
def f138(n:Int):Wf T 173 [.i n] [] (Is (.b (decide (1<=n/\n<=3)))):=by
 refine Yg KU ?_;simp[KU];exact mQ
 all_goals simp[*]
def CI(n:Int):Int:=if n=1\/n=2\/n=7 then 1 else if n=8 then 2 else if n=9\/n=10 then 3 else 0
def f182(n:Int)(b:1<=n/\n<=10):∃a,Wf T 234 [.i n] [] (Is (.tup [.agg [.val (.string a),.i (CI n)],.b true])):=by
 rcases(show n=1\/n=2\/n=3\/n=4\/n=5\/n=6\/n=7\/n=8\/n=9\/n=10 by omega)with rfl|rfl|rfl|rfl|rfl|rfl|rfl|rfl|rfl|rfl
 .exact⟨⟨#[103,111]⟩,o6 (k:=40) (by kernel_rfl)⟩
 .exact⟨⟨#[115,108,105,100,101]⟩,o6 (k:=40) (by kernel_rfl)⟩
 .exact⟨⟨#[101,109,112,116,121]⟩,o6 (k:=40) (by kernel_rfl)⟩
 .exact⟨⟨#[101,110,101,109,121]⟩,o6 (k:=40) (by kernel_rfl)⟩
 .exact⟨⟨#[102,114,105,101,110,100]⟩,o6 (k:=40) (by kernel_rfl)⟩
 .exact⟨⟨#[116,97,107,101]⟩,o6 (k:=40) (by kernel_rfl)⟩
 .exact⟨⟨#[112,117,115,104]⟩,o6 (k:=40) (by kernel_rfl)⟩
 .exact⟨⟨#[98,101,99,111,109,101]⟩,o6 (k:=40) (by kernel_rfl)⟩
 .exact⟨⟨#[110,101,101,100]⟩,o6 (k:=40) (by kernel_rfl)⟩
 .exact⟨⟨#[108,111,115,101]⟩,o6 (k:=40) (by kernel_rfl)⟩
def f181(kinds gM:Int)(x:gd)(a:sR 8 kinds gM x):Wf T 233 [.agg [.i x.1,.i x.2],.gC [.i 1,.i 8,.i kinds,.i gM]] [] (Is (.b false)):=by
 have h1:1<=x.1/\x.1<=10:=by unfold sR at a;omega
 obtain⟨d,c⟩:=f182 x.1 h1
 have b:(CI x.1=1/\0<=x.2/\x.2<8)\/(CI x.1=0/\0<=x.2/\x.2<1)\/(CI x.1=2/\0<=x.2/\x.2<kinds)\/(CI x.1=3/\0<=x.2/\x.2<gM):=by unfold sR at a;unfold CI;(repeat' split)<;>omega
 generalize CI x.1=k at c b;rcases b with⟨rfl,h⟩|⟨rfl,h⟩|⟨rfl,h⟩|⟨rfl,h⟩
 all_goals
  refine Yg Lg ?_;simp[Lg];refine Yc (c) ?_;simp;exact mQ
def f225(kinds gM:Int)(l:List gd)(hl:∀x∈l,sR 8 kinds gM x)(b:l.length<=8):Wf T 280 [iw l,.fn (.func 233) [] [.gC [.i 1,.i 8,.i kinds,.i gM]]] [] (Is (.i (-1))):=by
 refine Yg LF ?_;simp[LF];refine gp.e (0:Int) (λy=>[(0,iw l),(1,.fn (.func 233) [] [.gC [.i 1,.i 8,.i kinds,.i gM]]),(7,.i l.length),(8,.i y)]) (λy=>[]) (λy=>0<=y/\y<=l.length) (λy=>(l.length-y).toNat) ?_ ?_
 .simp
 rintro i ⟨i0,a⟩
 by_cases hi:i<l.length
 .simp[hi];refine gf ?_;refine Yc (f181 kinds gM (gt l i) (hl _ (gA i0 hi))) ?_;simp;refine gf ?_;refine LJ.e (i+1) ?_;exact mj
 .simp[hi]
def f183(kinds gM:Int)(l:List gd)(hl:∀x∈l,sR 8 kinds gM x)(a:l.length<=8):Wf T 235 [iw l,.fn (.func 233) [] [.gC [.i 1,.i 8,.i kinds,.i gM]]] [] (Is (.b false)):=by refine Yg Lh ?_;simp[Lh];refine Yc (f225 kinds gM l hl a) ?_;simp
def f184(l:List gd)(f:l.length<=8)(n:Int):Wf T 236 [iw l,.i n] [] (Is (.i (oO l n))):=by
 refine Yg Li ?_;simp[Li];refine gp.e ((0,0):Int×Int) (λy=>[(1,.i n),(5,.i y.2),(8,iw l),(9,.i l.length),(10,.i y.1)]) (λy=>[]) (λy=>0<=y.1/\y.1<=l.length/\y.2=oO (l.take y.1.toNat) n/\0<=y.2/\y.2<=y.1) (λy=>(l.length-y.1).toNat) ?_ ?_
 .simp[oO]
 rintro⟨i,c⟩ ⟨i0,e,a,d,b⟩;dsimp only at i0 e a d b ⊢
 by_cases hi:i<l.length
 .simp[hi];refine jT ?_ ?_<;>intro h
  .refine LJ.e (i+1,c+1) ?_;refine⟨by dsimp only;omega,by dsimp only;omega,by dsimp only;omega,?_,by dsimp only;omega,by dsimp only;omega⟩;dsimp only;rw[jn i0 hi,Gz,<-a,if_pos (by assumption)]
  .refine LJ.e (i+1,c) ?_;refine⟨by dsimp only;omega,by dsimp only;omega,by dsimp only;omega,?_,by dsimp only;omega,by dsimp only;omega⟩;dsimp only;rw[jn i0 hi,Gz,<-a,if_neg (by assumption)];omega
 .simp[hi];rw[a,lr (by omega)]
def f140(g:gj)(hg:gU g)(l:List gd)(hl:xW g l):Wf T 175 [iw l,.i 8,.i g.kinds.length,.i g.gM] [] (Is (.b true)):=by have h1:=hl.len;have c:=hl.uF;have b:=hl.push;have a:=hl.MR;refine Yg KX ?_;simp[KX];(with_reducible repeat' first|refine Xk ?_<;>try simp|refine Xs ?_ ?_<;>intro h<;>(try intro e)<;>(try simp[h])<;>try omega|refine Xg ?_|omega);refine Yr (f183 g.kinds.length g.gM l (λx d=>(hl.steps x d).ok) h1.2) ?_;simp;refine gf ?_;refine Yc (f184 l h1.2 6) ?_;simp;refine qy c b a ?_;refine Yc (f184 l h1.2 7) ?_;simp;refine qy c b a ?_;refine Yc (f184 l h1.2 8) ?_;simp;exact acB c b a
def f139(g:gj)(hg:gU g)(l:List gd)(hl:xW g l):Wf T 174 [iw l,.gC g.cells] [] (Is (.b false)):=by
 have h1:=hg.jJ.next
 refine Yg KV ?_;simp[KV,h1];refine Yc (f140 g hg l hl) ?_;simp
def aov:Wf T 176 [.val (.string ⟨#[97]⟩)] [] (Is (.b true)):=o6 (k:=100) (by kernel_rfl)
def aow:Wf T 176 [.val (.string ⟨#[98,101,101]⟩)] [] (Is (.b true)):=o6 (k:=100) (by kernel_rfl)
def f141(n:Int):Wf T 176 [.val (.string (kindName n))] [] (Is (.b true)):=by
 unfold kindName;split
 .exact aov
 .exact aow
def f188(k:Kind)(s:ByteArray):Wf T 240 [.agg k.cells,.gC [.val (.string s)]] [] (Is (.b (decide (k.name=s)))):=by refine Yg Lk ?_;simp[Lk]
def f187(g:gj)(hg:gU g)(n:Int)(d:0<=n/\n<g.kinds.length):Wf T 239 [.sl 3 (g.kinds.map Kind.cells),.fn (.func 240) [] [.gC [.val (.string (kindName n))]]] [] (Is (.i n)):=by
 have e:=hg.kinds;refine Yg Lj ?_;simp[Lj];refine gp.e (0:Int) (λy=>[(0,.sl 3 (g.kinds.map Kind.cells)),(1,.fn (.func 240) [] [.gC [.val (.string (kindName n))]]),(7,.i g.kinds.length),(8,.i y)]) (λy=>[]) (λy=>0<=y/\y<=n) (λy=>(g.kinds.length-y).toNat) ?_ ?_
 .simp;omega
 rintro i ⟨i0,c⟩;have hi:i<g.kinds.length:=by omega
 simp[hi];refine gf ?_;refine Yc (f188 (gt g.kinds i) (kindName n)) ?_;simp;have a:=hg.names i i0 hi
 by_cases gF:i=n
 .subst gF;simp[a]
 .have b:¬kindName i=kindName n:=by
   unfold kindName;have:i=0:=by omega
   rw[if_pos this,if_neg (by omega)];decide
  simp[a,b];refine gf ?_;refine LJ.e (i+1) ?_;exact mj
def f142(g:gj)(hg:gU g)(n:Int)(a:0<=n/\n<g.kinds.length):Wf T 177 [dG g,.val (.string (kindName n))] [] (Is (.i n)):=by refine Yg KY ?_;simp[KY];refine Yr (f187 g hg n a) ?_;simp
def f189(g:gj)(hg:gU g)(l:List (List gd))(hl:∀x∈l,xW g x)(b:l.length<=4):Wf T 241 [dN 1 fP l,.fn (.func 174) [] [.gC g.cells]] [] (Is (.i (-1))):=by
 refine Yg Ll ?_;simp[Ll];refine gp.e (0:Int) (λy=>[(0,dN 1 fP l),(1,.fn (.func 174) [] [.gC g.cells]),(7,.i l.length),(8,.i y)]) (λy=>[]) (λy=>0<=y/\y<=l.length) (λy=>(l.length-y).toNat) ?_ ?_
 .simp
 rintro i ⟨i0,a⟩
 by_cases hi:i<l.length
 .simp[hi];refine gf ?_;refine Yc (f139 g hg (gt l i) (hl _ (gA i0 hi))) ?_;simp;refine gf ?_;refine LJ.e (i+1) ?_;exact mj
 .simp[hi]
def f143(g:gj)(hg:gU g)(l:List (List gd))(hl:∀x∈l,xW g x)(a:l.length<=4):Wf T 178 [dN 1 fP l,.fn (.func 174) [] [.gC g.cells]] [] (Is (.b false)):=by refine Yg KZ ?_;simp[KZ];refine Yc (f189 g hg l hl a) ?_;simp
def f146(g:gj)(hg:gU g)(c:Clause)(a:C' g c):Wf T 181 [dG g,.agg c.cells] [] (Is (.b true)):=by
 have h1:=a.ok;have b:=a.out;refine Yg K3 ?_;simp[K3];(with_reducible repeat' first|refine Xk ?_<;>try simp|refine Xs ?_ ?_<;>intro h<;>(try intro d)<;>(try simp[h])<;>try omega|refine Xg ?_|omega)
 all_goals
  refine gx.r rfl rfl (f138 c.out) (by simp) (by simp[flat]) (by simp) ?_;simp[b.1,b.2];exact mQ
def f145(g:gj)(hg:gU g)(c:Clause)(a:C' g c):Wf T 180 [.agg c.cells,.gC g.cells] [] (Is (.b false)):=by refine Yg K2 ?_;simp[K2];refine Yc (f146 g hg c a) ?_;simp
def f190(g:gj)(hg:gU g)(l:List Clause)(hl:∀x∈l,C' g x)(b:l.length<=4):Wf T 242 [dN 4 Clause.cells l,.fn (.func 180) [] [.gC g.cells]] [] (Is (.i (-1))):=by
 refine Yg Ln ?_;simp[Ln];refine gp.e (0:Int) (λy=>[(0,dN 4 Clause.cells l),(1,.fn (.func 180) [] [.gC g.cells]),(7,.i l.length),(8,.i y)]) (λy=>[]) (λy=>0<=y/\y<=l.length) (λy=>(l.length-y).toNat) ?_ ?_
 .simp
 rintro i ⟨i0,a⟩
 by_cases hi:i<l.length
 .simp[hi];refine gf ?_;refine Yc (f145 g hg (gt l i) (hl _ (gA i0 hi))) ?_;simp;refine gf ?_;refine LJ.e (i+1) ?_;exact mj
 .simp[hi]
def f144(g:gj)(hg:gU g)(l:List Clause)(hl:∀x∈l,C' g x)(a:l.length<=4):Wf T 179 [dN 4 Clause.cells l,.fn (.func 180) [] [.gC g.cells]] [] (Is (.b false)):=by refine Yg K1 ?_;simp[K1];refine Yc (f190 g hg l hl a) ?_;simp
def f98(g:gj)(hg:gU g):Wf T 110 [dG g] [] (Is (.b true)):=by
 have k:=hg.kinds;have j:=hg.gM;have l:=hg.clauses;have e:=hg.blocked;have d:=hg.vJ;refine Yg MG ?_;simp[MG];refine Yc (f137 g hg.jJ) ?_;simp;(with_reducible repeat' first|refine Xk ?_<;>try simp|refine Xs ?_ ?_<;>intro h<;>(try intro b)<;>(try simp[h])<;>try omega|refine Xg ?_|omega);refine gx.r rfl rfl (f138 g.blocked) (by simp) (by simp[flat]) (by simp) ?_;simp[e];(with_reducible repeat' first|refine Xk ?_<;>try simp|refine Xs ?_ ?_<;>intro h<;>(try intro b)<;>(try simp[h])<;>try omega|refine Xg ?_|omega);refine gx.r rfl rfl (f138 g.vJ) (by simp) (by simp[flat]) (by simp) ?_;simp[d];(with_reducible repeat' first|refine Xk ?_<;>try simp|refine Xs ?_ ?_<;>intro h<;>(try intro b)<;>(try simp[h])<;>try omega|refine Xg ?_|omega);refine gp.e (0:Int) (λy=>[(1,.ptr 0 0 0),(51,.sl 3 (g.kinds.map Kind.cells)),(52,.i g.kinds.length),(53,.i y)]) (λy=>[.row 43 0 g.cells]) (λy=>0<=y/\y<=g.kinds.length) (λy=>(g.kinds.length-y).toNat) ?_ ?_
 .simp
 rintro i ⟨i0,f⟩
 by_cases hi:i<g.kinds.length
 .have a:=hg.names i i0 hi;have c:=hg.jr _ (gA i0 hi);simp[hi,a];refine jD a ?_;refine gx.r rfl rfl (f141 i) (by simp) (by simp[flat]) (by simp) ?_;simp[a];refine jD a ?_;refine gx.r rfl rfl (f142 g hg i ⟨i0,hi⟩) (by simp) (by simp[flat]) (by simp) ?_;simp[a];(with_reducible repeat' first|refine Xk ?_<;>try simp[a]|refine Xs ?_ ?_<;>intro h<;>(try intro b)<;>(try simp[h,a])<;>try omega|refine Xg ?_|omega);refine Yr (f143 g hg _ c.2 c.1) ?_;simp;refine gf ?_;refine LJ.e (i+1) ?_;exact mj
 .simp[hi];refine gf ?_;refine Yr (f144 g hg _ hg.clause (by omega)) ?_;simp
