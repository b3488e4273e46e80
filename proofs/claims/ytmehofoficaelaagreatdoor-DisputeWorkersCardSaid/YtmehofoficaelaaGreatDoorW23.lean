/- Part 23 of DisputeWorkers. -/
import Derived.Test.YtmehofoficaelaaGreatDoorW16
set_option linter.all false
namespace Go.Proofs.YtmehofoficaelaaGreatDoor
open Go Go.AL Classical
set_option maxRecDepth 100000
set_option maxHeartbeats 4000000
theorem f179(n a b:Int):Wf T 231 [.i n,.i a,.i b] [] (Is (.b (decide (a<=n/\n<=b)))):=by
 refine Yg KM ?_;simp[KM];exact mK
 all_goals simp[*]
theorem f180(g:gi)(hg:oM g)(n:Int)(a : -1<=n/\n<g.size):Wf T 232 [.i n,.gu [.fn (.func 231) [] []],.gu [.i g.size,.sl 1 (g.next.map fI),dI g.jy]] [] (Is (.b false)):=by have hs:=hg.size;refine Yg KN ?_;simp[KN];refine gd ?_;refine Yc (f179 n (-1) (g.size-1)) ?_;simp[show -1<=n/\n<=g.size-1 by omega]
theorem aeL(g:gi)(hg:oM g)(l:List Int)(hl:∀n∈l,-1<=n/\n<g.size)(b:l.length<=9):Wf T 230 [dI l,.fn (.func 232) [] [.gu [.fn (.func 231) [] []],.gu [.i g.size,.sl 1 (g.next.map fI),dI g.jy]]] [] (Is (.i (-1))):=by
 refine Yg C9 ?_;simp[C9];refine gj.e (0:Int) (λy=>[(0,dI l),(1,.fn (.func 232) [] [.gu [.fn (.func 231) [] []],.gu [.i g.size,.sl 1 (g.next.map fI),dI g.jy]]),(7,.i l.length),(8,.i y)]) (λy=>[]) (λy=>0<=y/\y<=l.length) (λy=>(l.length-y).toNat) ?_ ?_
 .simp
 rintro i ⟨i0,a⟩
 by_cases hi:i<l.length
 .simp[hi];refine gd ?_;refine Yc (f180 g hg (gt l i) (hl _ (gy i0 hi))) ?_;simp;refine gd ?_;refine LJ.e (i+1) ?_;exact mI
 .simp[hi]
theorem aeJ(g:gi)(hg:oM g)(l:List Int)(hl:∀n∈l,-1<=n/\n<g.size)(a:l.length<=9):Wf T 170 [dI l,.fn (.func 232) [] [.gu [.fn (.func 231) [] []],.gu [.i g.size,.sl 1 (g.next.map fI),dI g.jy]]] [] (Is (.b false)):=by refine Yg C8 ?_;simp[C8];refine Yc (aeL g hg l hl a) ?_;simp
theorem f137(g:gi)(hg:oM g):Wf T 172 [g.jJ] [] (Is (.b true)):=by
 have hs:=hg.size;have b:=hg.next
 have a:=hg.jy;refine Yg Kq ?_;simp[Kq,b];refine Yc (f179 g.size 1 64) ?_;simp[show 1<=g.size/\g.size<=64 by omega];refine Yc (f179 8 1 8) ?_;simp;(with_reducible repeat' first|refine Xk ?_<;>try simp[b,a]|refine Xs ?_ ?_<;>intro h<;>(try intro e)<;>(try simp[h,b,a])<;>try omega|refine Xg ?_|omega);refine gj.e (0:Int) (λy=>[(1,.ptr 0 0 0),(3,.i 8),(4,.ptr 1 0 0),(29,.sl 1 (g.next.map fI)),(30,.i 8),(31,.i y)]) (λy=>[.row 39 0 [.i g.size,.sl 1 (g.next.map fI),dI g.jy],.row 345 0 [.fn (.func 231) [] []]]) (λy=>0<=y/\y<=8) (λy=>(8-y).toNat) ?_ ?_
 .simp
 rintro i ⟨i0,f⟩
 by_cases hi:i<8
 .have c:=hg.row _ (gy (l:=g.next) i0 (by omega));have d:=hg.turns i i0 hi;simp[hi,c.1,b];(with_reducible repeat' first|refine Xk ?_<;>try simp[c.1,b]|refine Xs ?_ ?_<;>intro h<;>(try intro e)<;>(try simp[h,c.1,b])<;>try omega|refine Xg ?_|omega);refine Yr (aeJ g hg _ c.2 (by omega)) ?_;simp;refine jP a ?_;refine Yt (f179 (gt g.jy i) 0 7) ?_;simp[show 0<=gt g.jy i/\gt g.jy i<=7 by omega,a,d.2.2];(with_reducible repeat' first|refine Xk ?_<;>try simp[a,d.2.2]|refine Xs ?_ ?_<;>intro h<;>(try intro e)<;>(try simp[h,a,d.2.2])<;>try omega|refine Xg ?_|omega);refine LJ.e (i+1) ?_;exact mI
 .simp[hi]
theorem f138(n:Int):Wf T 173 [.i n] [] (Is (.b (decide (1<=n/\n<=3)))):=by
 refine Yg Kr ?_;simp[Kr];exact mK
 all_goals simp[*]
def Cm(n:Int):Int:=if n=1\/n=2\/n=7 then 1 else if n=8 then 2 else if n=9\/n=10 then 3 else 0
theorem f182(n:Int)(b:1<=n/\n<=10):∃a,Wf T 234 [.i n] [] (Is (.tup [.agg [.val (.string a),.i (Cm n)],.b true])):=by
 rcases(show n=1\/n=2\/n=3\/n=4\/n=5\/n=6\/n=7\/n=8\/n=9\/n=10 by omega)with rfl|rfl|rfl|rfl|rfl|rfl|rfl|rfl|rfl|rfl
 .exact⟨⟨#[103,111]⟩,o5 (k:=40) (by kernel_rfl)⟩
 .exact⟨⟨#[115,108,105,100,101]⟩,o5 (k:=40) (by kernel_rfl)⟩
 .exact⟨⟨#[101,109,112,116,121]⟩,o5 (k:=40) (by kernel_rfl)⟩
 .exact⟨⟨#[101,110,101,109,121]⟩,o5 (k:=40) (by kernel_rfl)⟩
 .exact⟨⟨#[102,114,105,101,110,100]⟩,o5 (k:=40) (by kernel_rfl)⟩
 .exact⟨⟨#[116,97,107,101]⟩,o5 (k:=40) (by kernel_rfl)⟩
 .exact⟨⟨#[112,117,115,104]⟩,o5 (k:=40) (by kernel_rfl)⟩
 .exact⟨⟨#[98,101,99,111,109,101]⟩,o5 (k:=40) (by kernel_rfl)⟩
 .exact⟨⟨#[110,101,101,100]⟩,o5 (k:=40) (by kernel_rfl)⟩
 .exact⟨⟨#[108,111,115,101]⟩,o5 (k:=40) (by kernel_rfl)⟩
theorem f181(kinds gL:Int)(x:fZ)(a:sR 8 kinds gL x):Wf T 233 [.agg [.i x.1,.i x.2],.gu [.i 1,.i 8,.i kinds,.i gL]] [] (Is (.b false)):=by
 have h1:1<=x.1/\x.1<=10:=by unfold sR at a;omega
 obtain⟨d,c⟩:=f182 x.1 h1
 have b:(Cm x.1=1/\0<=x.2/\x.2<8)\/(Cm x.1=0/\0<=x.2/\x.2<1)\/(Cm x.1=2/\0<=x.2/\x.2<kinds)\/(Cm x.1=3/\0<=x.2/\x.2<gL):=by unfold sR at a;unfold Cm;(repeat' split)<;>omega
 generalize Cm x.1=k at c b;rcases b with⟨rfl,h⟩|⟨rfl,h⟩|⟨rfl,h⟩|⟨rfl,h⟩
 all_goals
  refine Yg KP ?_;simp[KP];refine Yc (c) ?_;simp;exact mK
theorem f225(kinds gL:Int)(l:List fZ)(hl:∀x∈l,sR 8 kinds gL x)(b:l.length<=8):Wf T 280 [gY l,.fn (.func 233) [] [.gu [.i 1,.i 8,.i kinds,.i gL]]] [] (Is (.i (-1))):=by
 refine Yg Ld ?_;simp[Ld];refine gj.e (0:Int) (λy=>[(0,gY l),(1,.fn (.func 233) [] [.gu [.i 1,.i 8,.i kinds,.i gL]]),(7,.i l.length),(8,.i y)]) (λy=>[]) (λy=>0<=y/\y<=l.length) (λy=>(l.length-y).toNat) ?_ ?_
 .simp
 rintro i ⟨i0,a⟩
 by_cases hi:i<l.length
 .simp[hi];refine gd ?_;refine Yc (f181 kinds gL (gt l i) (hl _ (gy i0 hi))) ?_;simp;refine gd ?_;refine LJ.e (i+1) ?_;exact mI
 .simp[hi]
theorem f183(kinds gL:Int)(l:List fZ)(hl:∀x∈l,sR 8 kinds gL x)(a:l.length<=8):Wf T 235 [gY l,.fn (.func 233) [] [.gu [.i 1,.i 8,.i kinds,.i gL]]] [] (Is (.b false)):=by refine Yg KQ ?_;simp[KQ];refine Yc (f225 kinds gL l hl a) ?_;simp
theorem f184(l:List fZ)(f:l.length<=8)(n:Int):Wf T 236 [gY l,.i n] [] (Is (.i (oO l n))):=by
 refine Yg KR ?_;simp[KR];refine gj.e ((0,0):Int×Int) (λy=>[(1,.i n),(5,.i y.2),(8,gY l),(9,.i l.length),(10,.i y.1)]) (λy=>[]) (λy=>0<=y.1/\y.1<=l.length/\y.2=oO (l.take y.1.toNat) n/\0<=y.2/\y.2<=y.1) (λy=>(l.length-y.1).toNat) ?_ ?_
 .simp[oO]
 rintro⟨i,c⟩ ⟨i0,e,a,d,b⟩;dsimp only at i0 e a d b ⊢
 by_cases hi:i<l.length
 .simp[hi];refine j' ?_ ?_<;>intro h
  .refine LJ.e (i+1,c+1) ?_;refine⟨by dsimp only;omega,by dsimp only;omega,by dsimp only;omega,?_,by dsimp only;omega,by dsimp only;omega⟩;dsimp only;rw[jq i0 hi,Gb,<-a,if_pos (by assumption)]
  .refine LJ.e (i+1,c) ?_;refine⟨by dsimp only;omega,by dsimp only;omega,by dsimp only;omega,?_,by dsimp only;omega,by dsimp only;omega⟩;dsimp only;rw[jq i0 hi,Gb,<-a,if_neg (by assumption)];omega
 .simp[hi];rw[a,ln (by omega)]
theorem f140(g:gi)(hg:gV g)(l:List fZ)(hl:xM g l):Wf T 175 [gY l,.i 8,.i g.kinds.length,.i g.gL] [] (Is (.b true)):=by have h1:=hl.len;have c:=hl.uz;have b:=hl.push;have a:=hl.Ms;refine Yg Ku ?_;simp[Ku];(with_reducible repeat' first|refine Xk ?_<;>try simp|refine Xs ?_ ?_<;>intro h<;>(try intro e)<;>(try simp[h])<;>try omega|refine Xg ?_|omega);refine Yr (f183 g.kinds.length g.gL l (λx d=>(hl.steps x d).ok) h1.2) ?_;simp;refine gd ?_;refine Yc (f184 l h1.2 6) ?_;simp;refine qz c b a ?_;refine Yc (f184 l h1.2 7) ?_;simp;refine qz c b a ?_;refine Yc (f184 l h1.2 8) ?_;simp;exact abD c b a
theorem f139(g:gi)(hg:gV g)(l:List fZ)(hl:xM g l):Wf T 174 [gY l,.gu g.cells] [] (Is (.b false)):=by
 have h1:=hg.jJ.next
 refine Yg Ks ?_;simp[Ks,h1];refine Yc (f140 g hg l hl) ?_;simp
theorem anE:Wf T 176 [.val (.string ⟨#[97]⟩)] [] (Is (.b true)):=o5 (k:=100) (by kernel_rfl)
theorem anF:Wf T 176 [.val (.string ⟨#[98,101,101]⟩)] [] (Is (.b true)):=o5 (k:=100) (by kernel_rfl)
theorem f141(n:Int):Wf T 176 [.val (.string (kindName n))] [] (Is (.b true)):=by
 unfold kindName;split
 .exact anE
 .exact anF
theorem f188(k:Kind)(s:ByteArray):Wf T 240 [.agg k.cells,.gu [.val (.string s)]] [] (Is (.b (decide (k.name=s)))):=by refine Yg KU ?_;simp[KU]
theorem f187(g:gi)(hg:gV g)(n:Int)(d:0<=n/\n<g.kinds.length):Wf T 239 [.sl 3 (g.kinds.map Kind.cells),.fn (.func 240) [] [.gu [.val (.string (kindName n))]]] [] (Is (.i n)):=by
 have e:=hg.kinds;refine Yg KT ?_;simp[KT];refine gj.e (0:Int) (λy=>[(0,.sl 3 (g.kinds.map Kind.cells)),(1,.fn (.func 240) [] [.gu [.val (.string (kindName n))]]),(7,.i g.kinds.length),(8,.i y)]) (λy=>[]) (λy=>0<=y/\y<=n) (λy=>(g.kinds.length-y).toNat) ?_ ?_
 .simp;omega
 rintro i ⟨i0,c⟩;have hi:i<g.kinds.length:=by omega
 simp[hi];refine gd ?_;refine Yc (f188 (gt g.kinds i) (kindName n)) ?_;simp;have a:=hg.names i i0 hi
 by_cases gH:i=n
 .subst gH;simp[a]
 .have b:¬kindName i=kindName n:=by
   unfold kindName;have:i=0:=by omega
   rw[if_pos this,if_neg (by omega)];decide
  simp[a,b];refine gd ?_;refine LJ.e (i+1) ?_;exact mI
theorem f142(g:gi)(hg:gV g)(n:Int)(a:0<=n/\n<g.kinds.length):Wf T 177 [dG g,.val (.string (kindName n))] [] (Is (.i n)):=by refine Yg Kv ?_;simp[Kv];refine Yr (f187 g hg n a) ?_;simp
theorem f189(g:gi)(hg:gV g)(l:List (List fZ))(hl:∀x∈l,xM g x)(b:l.length<=4):Wf T 241 [dN 1 fP l,.fn (.func 174) [] [.gu g.cells]] [] (Is (.i (-1))):=by
 refine Yg KV ?_;simp[KV];refine gj.e (0:Int) (λy=>[(0,dN 1 fP l),(1,.fn (.func 174) [] [.gu g.cells]),(7,.i l.length),(8,.i y)]) (λy=>[]) (λy=>0<=y/\y<=l.length) (λy=>(l.length-y).toNat) ?_ ?_
 .simp
 rintro i ⟨i0,a⟩
 by_cases hi:i<l.length
 .simp[hi];refine gd ?_;refine Yc (f139 g hg (gt l i) (hl _ (gy i0 hi))) ?_;simp;refine gd ?_;refine LJ.e (i+1) ?_;exact mI
 .simp[hi]
theorem f143(g:gi)(hg:gV g)(l:List (List fZ))(hl:∀x∈l,xM g x)(a:l.length<=4):Wf T 178 [dN 1 fP l,.fn (.func 174) [] [.gu g.cells]] [] (Is (.b false)):=by refine Yg Kw ?_;simp[Kw];refine Yc (f189 g hg l hl a) ?_;simp
theorem f146(g:gi)(hg:gV g)(c:Clause)(a:CT g c):Wf T 181 [dG g,.agg c.cells] [] (Is (.b true)):=by
 have h1:=a.ok;have b:=a.out;refine Yg Kz ?_;simp[Kz];(with_reducible repeat' first|refine Xk ?_<;>try simp|refine Xs ?_ ?_<;>intro h<;>(try intro d)<;>(try simp[h])<;>try omega|refine Xg ?_|omega)
 all_goals
  refine gx.r rfl rfl (f138 c.out) (by simp) (by simp[flat]) (by simp) ?_;simp[b.1,b.2];exact mK
theorem f145(g:gi)(hg:gV g)(c:Clause)(a:CT g c):Wf T 180 [.agg c.cells,.gu g.cells] [] (Is (.b false)):=by refine Yg Ky ?_;simp[Ky];refine Yc (f146 g hg c a) ?_;simp
theorem f190(g:gi)(hg:gV g)(l:List Clause)(hl:∀x∈l,CT g x)(b:l.length<=4):Wf T 242 [dN 4 Clause.cells l,.fn (.func 180) [] [.gu g.cells]] [] (Is (.i (-1))):=by
 refine Yg KW ?_;simp[KW];refine gj.e (0:Int) (λy=>[(0,dN 4 Clause.cells l),(1,.fn (.func 180) [] [.gu g.cells]),(7,.i l.length),(8,.i y)]) (λy=>[]) (λy=>0<=y/\y<=l.length) (λy=>(l.length-y).toNat) ?_ ?_
 .simp
 rintro i ⟨i0,a⟩
 by_cases hi:i<l.length
 .simp[hi];refine gd ?_;refine Yc (f145 g hg (gt l i) (hl _ (gy i0 hi))) ?_;simp;refine gd ?_;refine LJ.e (i+1) ?_;exact mI
 .simp[hi]
theorem f144(g:gi)(hg:gV g)(l:List Clause)(hl:∀x∈l,CT g x)(a:l.length<=4):Wf T 179 [dN 4 Clause.cells l,.fn (.func 180) [] [.gu g.cells]] [] (Is (.b false)):=by refine Yg Kx ?_;simp[Kx];refine Yc (f190 g hg l hl a) ?_;simp
theorem f98(g:gi)(hg:gV g):Wf T 110 [dG g] [] (Is (.b true)):=by
 have k:=hg.kinds;have j:=hg.gL;have l:=hg.clauses;have e:=hg.blocked;have d:=hg.vo;refine Yg Mg ?_;simp[Mg];refine Yc (f137 g hg.jJ) ?_;simp;(with_reducible repeat' first|refine Xk ?_<;>try simp|refine Xs ?_ ?_<;>intro h<;>(try intro b)<;>(try simp[h])<;>try omega|refine Xg ?_|omega);refine gx.r rfl rfl (f138 g.blocked) (by simp) (by simp[flat]) (by simp) ?_;simp[e];(with_reducible repeat' first|refine Xk ?_<;>try simp|refine Xs ?_ ?_<;>intro h<;>(try intro b)<;>(try simp[h])<;>try omega|refine Xg ?_|omega);refine gx.r rfl rfl (f138 g.vo) (by simp) (by simp[flat]) (by simp) ?_;simp[d];(with_reducible repeat' first|refine Xk ?_<;>try simp|refine Xs ?_ ?_<;>intro h<;>(try intro b)<;>(try simp[h])<;>try omega|refine Xg ?_|omega);refine gj.e (0:Int) (λy=>[(1,.ptr 0 0 0),(51,.sl 3 (g.kinds.map Kind.cells)),(52,.i g.kinds.length),(53,.i y)]) (λy=>[.row 43 0 g.cells]) (λy=>0<=y/\y<=g.kinds.length) (λy=>(g.kinds.length-y).toNat) ?_ ?_
 .simp
 rintro i ⟨i0,f⟩
 by_cases hi:i<g.kinds.length
 .have a:=hg.names i i0 hi;have c:=hg.jt _ (gy i0 hi);simp[hi,a];refine jP a ?_;refine gx.r rfl rfl (f141 i) (by simp) (by simp[flat]) (by simp) ?_;simp[a];refine jP a ?_;refine gx.r rfl rfl (f142 g hg i ⟨i0,hi⟩) (by simp) (by simp[flat]) (by simp) ?_;simp[a];(with_reducible repeat' first|refine Xk ?_<;>try simp[a]|refine Xs ?_ ?_<;>intro h<;>(try intro b)<;>(try simp[h,a])<;>try omega|refine Xg ?_|omega);refine Yr (f143 g hg _ c.2 c.1) ?_;simp;refine gd ?_;refine LJ.e (i+1) ?_;exact mI
 .simp[hi];refine gd ?_;refine Yr (f144 g hg _ hg.clause (by omega)) ?_;simp
