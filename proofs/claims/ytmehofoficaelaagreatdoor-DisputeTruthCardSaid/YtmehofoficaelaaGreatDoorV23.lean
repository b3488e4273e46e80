/- Part 23 of DisputeTruth. -/
import Derived.Test.YtmehofoficaelaaGreatDoorV16
set_option linter.all false
namespace Go.Proofs.YtmehofoficaelaaGreatDoor
open Go Go.AL Classical
set_option maxRecDepth 100000
set_option maxHeartbeats 4000000
theorem f179(n a b:Int):Wf T 231 [.i n,.i a,.i b] [] (Is (.b (decide (a<=n/\n<=b)))):=by
 refine Yg J9 ?_;simp[J9];exact mE
 all_goals simp[*]
theorem f180(g:fY)(hg:oo g)(n:Int)(a : -1<=n/\n<g.size):Wf T 232 [.i n,.gi [.fn (.func 231) [] []],.gi [.i g.size,.sl 1 (g.next.map fI),dI g.jn]] [] (Is (.b false)):=by have hs:=hg.size;refine Yg J' ?_;simp[J'];refine fQ ?_;refine Yc (f179 n (-1) (g.size-1)) ?_;simp[show -1<=n/\n<=g.size-1 by omega]
theorem aei(g:fY)(hg:oo g)(l:List Int)(hl:∀n∈l,-1<=n/\n<g.size)(b:l.length<=9):Wf T 230 [dI l,.fn (.func 232) [] [.gi [.fn (.func 231) [] []],.gi [.i g.size,.sl 1 (g.next.map fI),dI g.jn]]] [] (Is (.i (-1))):=by
 refine Yg Cz ?_;simp[Cz];refine fZ.e (0:Int) (λy=>[(0,dI l),(1,.fn (.func 232) [] [.gi [.fn (.func 231) [] []],.gi [.i g.size,.sl 1 (g.next.map fI),dI g.jn]]),(7,.i l.length),(8,.i y)]) (λy=>[]) (λy=>0<=y/\y<=l.length) (λy=>(l.length-y).toNat) ?_ ?_
 .simp
 rintro i ⟨i0,a⟩
 by_cases hi:i<l.length
 .simp[hi];refine fQ ?_;refine Yc (f180 g hg (gt l i) (hl _ (gq i0 hi))) ?_;simp;refine fQ ?_;refine LJ.e (i+1) ?_;exact l4
 .simp[hi]
theorem aeg(g:fY)(hg:oo g)(l:List Int)(hl:∀n∈l,-1<=n/\n<g.size)(a:l.length<=9):Wf T 170 [dI l,.fn (.func 232) [] [.gi [.fn (.func 231) [] []],.gi [.i g.size,.sl 1 (g.next.map fI),dI g.jn]]] [] (Is (.b false)):=by refine Yg Cy ?_;simp[Cy];refine Yc (aei g hg l hl a) ?_;simp
theorem f137(g:fY)(hg:oo g):Wf T 172 [g.jB] [] (Is (.b true)):=by
 have hs:=hg.size;have b:=hg.next
 have a:=hg.jn;refine Yg JQ ?_;simp[JQ,b];refine Yc (f179 g.size 1 64) ?_;simp[show 1<=g.size/\g.size<=64 by omega];refine Yc (f179 8 1 8) ?_;simp;(with_reducible repeat' first|refine Xk ?_<;>try simp[b,a]|refine Xs ?_ ?_<;>intro h<;>(try intro e)<;>(try simp[h,b,a])<;>try omega|refine Xg ?_|omega);refine fZ.e (0:Int) (λy=>[(1,.ptr 0 0 0),(3,.i 8),(4,.ptr 1 0 0),(29,.sl 1 (g.next.map fI)),(30,.i 8),(31,.i y)]) (λy=>[.row 39 0 [.i g.size,.sl 1 (g.next.map fI),dI g.jn],.row 345 0 [.fn (.func 231) [] []]]) (λy=>0<=y/\y<=8) (λy=>(8-y).toNat) ?_ ?_
 .simp
 rintro i ⟨i0,f⟩
 by_cases hi:i<8
 .have c:=hg.row _ (gq (l:=g.next) i0 (by omega));have d:=hg.turns i i0 hi;simp[hi,c.1,b];(with_reducible repeat' first|refine Xk ?_<;>try simp[c.1,b]|refine Xs ?_ ?_<;>intro h<;>(try intro e)<;>(try simp[h,c.1,b])<;>try omega|refine Xg ?_|omega);refine Yr (aeg g hg _ c.2 (by omega)) ?_;simp;refine jH a ?_;refine Yt (f179 (gt g.jn i) 0 7) ?_;simp[show 0<=gt g.jn i/\gt g.jn i<=7 by omega,a,d.2.2];(with_reducible repeat' first|refine Xk ?_<;>try simp[a,d.2.2]|refine Xs ?_ ?_<;>intro h<;>(try intro e)<;>(try simp[h,a,d.2.2])<;>try omega|refine Xg ?_|omega);refine LJ.e (i+1) ?_;exact l4
 .simp[hi]
theorem f138(n:Int):Wf T 173 [.i n] [] (Is (.b (decide (1<=n/\n<=3)))):=by
 refine Yg JR ?_;simp[JR];exact mE
 all_goals simp[*]
def BU(n:Int):Int:=if n=1\/n=2\/n=7 then 1 else if n=8 then 2 else if n=9\/n=10 then 3 else 0
theorem f182(n:Int)(b:1<=n/\n<=10):∃a,Wf T 234 [.i n] [] (Is (.tup [.agg [.val (.string a),.i (BU n)],.b true])):=by
 rcases(show n=1\/n=2\/n=3\/n=4\/n=5\/n=6\/n=7\/n=8\/n=9\/n=10 by omega)with rfl|rfl|rfl|rfl|rfl|rfl|rfl|rfl|rfl|rfl
 .exact⟨⟨#[103,111]⟩,oL (k:=40) (by kernel_rfl)⟩
 .exact⟨⟨#[115,108,105,100,101]⟩,oL (k:=40) (by kernel_rfl)⟩
 .exact⟨⟨#[101,109,112,116,121]⟩,oL (k:=40) (by kernel_rfl)⟩
 .exact⟨⟨#[101,110,101,109,121]⟩,oL (k:=40) (by kernel_rfl)⟩
 .exact⟨⟨#[102,114,105,101,110,100]⟩,oL (k:=40) (by kernel_rfl)⟩
 .exact⟨⟨#[116,97,107,101]⟩,oL (k:=40) (by kernel_rfl)⟩
 .exact⟨⟨#[112,117,115,104]⟩,oL (k:=40) (by kernel_rfl)⟩
 .exact⟨⟨#[98,101,99,111,109,101]⟩,oL (k:=40) (by kernel_rfl)⟩
 .exact⟨⟨#[110,101,101,100]⟩,oL (k:=40) (by kernel_rfl)⟩
 .exact⟨⟨#[108,111,115,101]⟩,oL (k:=40) (by kernel_rfl)⟩
theorem f181(kinds gD:Int)(x:fO)(a:sv 8 kinds gD x):Wf T 233 [.agg [.i x.1,.i x.2],.gi [.i 1,.i 8,.i kinds,.i gD]] [] (Is (.b false)):=by
 have h1:1<=x.1/\x.1<=10:=by unfold sv at a;omega
 obtain⟨d,c⟩:=f182 x.1 h1
 have b:(BU x.1=1/\0<=x.2/\x.2<8)\/(BU x.1=0/\0<=x.2/\x.2<1)\/(BU x.1=2/\0<=x.2/\x.2<kinds)\/(BU x.1=3/\0<=x.2/\x.2<gD):=by unfold sv at a;unfold BU;(repeat' split)<;>omega
 generalize BU x.1=k at c b;rcases b with⟨rfl,h⟩|⟨rfl,h⟩|⟨rfl,h⟩|⟨rfl,h⟩
 all_goals
  refine Yg Ka ?_;simp[Ka];refine Yc (c) ?_;simp;exact mE
theorem f225(kinds gD:Int)(l:List fO)(hl:∀x∈l,sv 8 kinds gD x)(b:l.length<=8):Wf T 280 [ie l,.fn (.func 233) [] [.gi [.i 1,.i 8,.i kinds,.i gD]]] [] (Is (.i (-1))):=by
 refine Yg Kw ?_;simp[Kw];refine fZ.e (0:Int) (λy=>[(0,ie l),(1,.fn (.func 233) [] [.gi [.i 1,.i 8,.i kinds,.i gD]]),(7,.i l.length),(8,.i y)]) (λy=>[]) (λy=>0<=y/\y<=l.length) (λy=>(l.length-y).toNat) ?_ ?_
 .simp
 rintro i ⟨i0,a⟩
 by_cases hi:i<l.length
 .simp[hi];refine fQ ?_;refine Yc (f181 kinds gD (gt l i) (hl _ (gq i0 hi))) ?_;simp;refine fQ ?_;refine LJ.e (i+1) ?_;exact l4
 .simp[hi]
theorem f183(kinds gD:Int)(l:List fO)(hl:∀x∈l,sv 8 kinds gD x)(a:l.length<=8):Wf T 235 [ie l,.fn (.func 233) [] [.gi [.i 1,.i 8,.i kinds,.i gD]]] [] (Is (.b false)):=by refine Yg Kb ?_;simp[Kb];refine Yc (f225 kinds gD l hl a) ?_;simp
theorem f184(l:List fO)(f:l.length<=8)(n:Int):Wf T 236 [ie l,.i n] [] (Is (.i (ot l n))):=by
 refine Yg Kc ?_;simp[Kc];refine fZ.e ((0,0):Int×Int) (λy=>[(1,.i n),(5,.i y.2),(8,ie l),(9,.i l.length),(10,.i y.1)]) (λy=>[]) (λy=>0<=y.1/\y.1<=l.length/\y.2=ot (l.take y.1.toNat) n/\0<=y.2/\y.2<=y.1) (λy=>(l.length-y.1).toNat) ?_ ?_
 .simp[ot]
 rintro⟨i,c⟩ ⟨i0,e,a,d,b⟩;dsimp only at i0 e a d b ⊢
 by_cases hi:i<l.length
 .simp[hi];refine jU ?_ ?_<;>intro h
  .refine LJ.e (i+1,c+1) ?_;refine⟨by dsimp only;omega,by dsimp only;omega,by dsimp only;omega,?_,by dsimp only;omega,by dsimp only;omega⟩;dsimp only;rw[jd i0 hi,FF,<-a,if_pos (by assumption)]
  .refine LJ.e (i+1,c) ?_;refine⟨by dsimp only;omega,by dsimp only;omega,by dsimp only;omega,?_,by dsimp only;omega,by dsimp only;omega⟩;dsimp only;rw[jd i0 hi,FF,<-a,if_neg (by assumption)];omega
 .simp[hi];rw[a,kW (by omega)]
theorem f140(g:fY)(hg:gN g)(l:List fO)(hl:xk g l):Wf T 175 [ie l,.i 8,.i g.kinds.length,.i g.gD] [] (Is (.b true)):=by have h1:=hl.len;have c:=hl.tT;have b:=hl.push;have a:=hl.LK;refine Yg JU ?_;simp[JU];(with_reducible repeat' first|refine Xk ?_<;>try simp|refine Xs ?_ ?_<;>intro h<;>(try intro e)<;>(try simp[h])<;>try omega|refine Xg ?_|omega);refine Yr (f183 g.kinds.length g.gD l (λx d=>(hl.steps x d).ok) h1.2) ?_;simp;refine fQ ?_;refine Yc (f184 l h1.2 6) ?_;simp;refine qJ c b a ?_;refine Yc (f184 l h1.2 7) ?_;simp;refine qJ c b a ?_;refine Yc (f184 l h1.2 8) ?_;simp;exact abm c b a
theorem f139(g:fY)(hg:gN g)(l:List fO)(hl:xk g l):Wf T 174 [ie l,.gi g.cells] [] (Is (.b false)):=by
 have h1:=hg.jB.next
 refine Yg JS ?_;simp[JS,h1];refine Yc (f140 g hg l hl) ?_;simp
theorem amY:Wf T 176 [.val (.string ⟨#[97]⟩)] [] (Is (.b true)):=oL (k:=100) (by kernel_rfl)
theorem amZ:Wf T 176 [.val (.string ⟨#[98,101,101]⟩)] [] (Is (.b true)):=oL (k:=100) (by kernel_rfl)
theorem f141(n:Int):Wf T 176 [.val (.string (kindName n))] [] (Is (.b true)):=by
 unfold kindName;split
 .exact amY
 .exact amZ
theorem f188(k:Kind)(s:ByteArray):Wf T 240 [.agg k.cells,.gi [.val (.string s)]] [] (Is (.b (decide (k.name=s)))):=by refine Yg Ke ?_;simp[Ke]
theorem f187(g:fY)(hg:gN g)(n:Int)(d:0<=n/\n<g.kinds.length):Wf T 239 [.sl 3 (g.kinds.map Kind.cells),.fn (.func 240) [] [.gi [.val (.string (kindName n))]]] [] (Is (.i n)):=by
 have e:=hg.kinds;refine Yg Kd ?_;simp[Kd];refine fZ.e (0:Int) (λy=>[(0,.sl 3 (g.kinds.map Kind.cells)),(1,.fn (.func 240) [] [.gi [.val (.string (kindName n))]]),(7,.i g.kinds.length),(8,.i y)]) (λy=>[]) (λy=>0<=y/\y<=n) (λy=>(g.kinds.length-y).toNat) ?_ ?_
 .simp;omega
 rintro i ⟨i0,c⟩;have hi:i<g.kinds.length:=by omega
 simp[hi];refine fQ ?_;refine Yc (f188 (gt g.kinds i) (kindName n)) ?_;simp;have a:=hg.names i i0 hi
 by_cases gy:i=n
 .subst gy;simp[a]
 .have b:¬kindName i=kindName n:=by
   unfold kindName;have:i=0:=by omega
   rw[if_pos this,if_neg (by omega)];decide
  simp[a,b];refine fQ ?_;refine LJ.e (i+1) ?_;exact l4
theorem f142(g:fY)(hg:gN g)(n:Int)(a:0<=n/\n<g.kinds.length):Wf T 177 [dG g,.val (.string (kindName n))] [] (Is (.i n)):=by refine Yg JV ?_;simp[JV];refine Yr (f187 g hg n a) ?_;simp
theorem f189(g:fY)(hg:gN g)(l:List (List fO))(hl:∀x∈l,xk g x)(b:l.length<=4):Wf T 241 [dN 1 fP l,.fn (.func 174) [] [.gi g.cells]] [] (Is (.i (-1))):=by
 refine Yg Kf ?_;simp[Kf];refine fZ.e (0:Int) (λy=>[(0,dN 1 fP l),(1,.fn (.func 174) [] [.gi g.cells]),(7,.i l.length),(8,.i y)]) (λy=>[]) (λy=>0<=y/\y<=l.length) (λy=>(l.length-y).toNat) ?_ ?_
 .simp
 rintro i ⟨i0,a⟩
 by_cases hi:i<l.length
 .simp[hi];refine fQ ?_;refine Yc (f139 g hg (gt l i) (hl _ (gq i0 hi))) ?_;simp;refine fQ ?_;refine LJ.e (i+1) ?_;exact l4
 .simp[hi]
theorem f143(g:fY)(hg:gN g)(l:List (List fO))(hl:∀x∈l,xk g x)(a:l.length<=4):Wf T 178 [dN 1 fP l,.fn (.func 174) [] [.gi g.cells]] [] (Is (.b false)):=by refine Yg JW ?_;simp[JW];refine Yc (f189 g hg l hl a) ?_;simp
theorem f146(g:fY)(hg:gN g)(c:Clause)(a:Cm g c):Wf T 181 [dG g,.agg c.cells] [] (Is (.b true)):=by
 have h1:=a.ok;have b:=a.out;refine Yg JZ ?_;simp[JZ];(with_reducible repeat' first|refine Xk ?_<;>try simp|refine Xs ?_ ?_<;>intro h<;>(try intro d)<;>(try simp[h])<;>try omega|refine Xg ?_|omega)
 all_goals
  refine gj.r rfl rfl (f138 c.out) (by simp) (by simp[flat]) (by simp) ?_;simp[b.1,b.2];exact mE
theorem f145(g:fY)(hg:gN g)(c:Clause)(a:Cm g c):Wf T 180 [.agg c.cells,.gi g.cells] [] (Is (.b false)):=by refine Yg JY ?_;simp[JY];refine Yc (f146 g hg c a) ?_;simp
theorem f190(g:fY)(hg:gN g)(l:List Clause)(hl:∀x∈l,Cm g x)(b:l.length<=4):Wf T 242 [dN 4 Clause.cells l,.fn (.func 180) [] [.gi g.cells]] [] (Is (.i (-1))):=by
 refine Yg Kg ?_;simp[Kg];refine fZ.e (0:Int) (λy=>[(0,dN 4 Clause.cells l),(1,.fn (.func 180) [] [.gi g.cells]),(7,.i l.length),(8,.i y)]) (λy=>[]) (λy=>0<=y/\y<=l.length) (λy=>(l.length-y).toNat) ?_ ?_
 .simp
 rintro i ⟨i0,a⟩
 by_cases hi:i<l.length
 .simp[hi];refine fQ ?_;refine Yc (f145 g hg (gt l i) (hl _ (gq i0 hi))) ?_;simp;refine fQ ?_;refine LJ.e (i+1) ?_;exact l4
 .simp[hi]
theorem f144(g:fY)(hg:gN g)(l:List Clause)(hl:∀x∈l,Cm g x)(a:l.length<=4):Wf T 179 [dN 4 Clause.cells l,.fn (.func 180) [] [.gi g.cells]] [] (Is (.b false)):=by refine Yg JX ?_;simp[JX];refine Yc (f190 g hg l hl a) ?_;simp
theorem f98(g:fY)(hg:gN g):Wf T 110 [dG g] [] (Is (.b true)):=by
 have k:=hg.kinds;have j:=hg.gD;have l:=hg.clauses;have e:=hg.blocked;have d:=hg.uY;refine Yg Lv ?_;simp[Lv];refine Yc (f137 g hg.jB) ?_;simp;(with_reducible repeat' first|refine Xk ?_<;>try simp|refine Xs ?_ ?_<;>intro h<;>(try intro b)<;>(try simp[h])<;>try omega|refine Xg ?_|omega);refine gj.r rfl rfl (f138 g.blocked) (by simp) (by simp[flat]) (by simp) ?_;simp[e];(with_reducible repeat' first|refine Xk ?_<;>try simp|refine Xs ?_ ?_<;>intro h<;>(try intro b)<;>(try simp[h])<;>try omega|refine Xg ?_|omega);refine gj.r rfl rfl (f138 g.uY) (by simp) (by simp[flat]) (by simp) ?_;simp[d];(with_reducible repeat' first|refine Xk ?_<;>try simp|refine Xs ?_ ?_<;>intro h<;>(try intro b)<;>(try simp[h])<;>try omega|refine Xg ?_|omega);refine fZ.e (0:Int) (λy=>[(1,.ptr 0 0 0),(51,.sl 3 (g.kinds.map Kind.cells)),(52,.i g.kinds.length),(53,.i y)]) (λy=>[.row 43 0 g.cells]) (λy=>0<=y/\y<=g.kinds.length) (λy=>(g.kinds.length-y).toNat) ?_ ?_
 .simp
 rintro i ⟨i0,f⟩
 by_cases hi:i<g.kinds.length
 .have a:=hg.names i i0 hi;have c:=hg.jh _ (gq i0 hi);simp[hi,a];refine jH a ?_;refine gj.r rfl rfl (f141 i) (by simp) (by simp[flat]) (by simp) ?_;simp[a];refine jH a ?_;refine gj.r rfl rfl (f142 g hg i ⟨i0,hi⟩) (by simp) (by simp[flat]) (by simp) ?_;simp[a];(with_reducible repeat' first|refine Xk ?_<;>try simp[a]|refine Xs ?_ ?_<;>intro h<;>(try intro b)<;>(try simp[h,a])<;>try omega|refine Xg ?_|omega);refine Yr (f143 g hg _ c.2 c.1) ?_;simp;refine fQ ?_;refine LJ.e (i+1) ?_;exact l4
 .simp[hi];refine fQ ?_;refine Yr (f144 g hg _ hg.clause (by omega)) ?_;simp
