/- Part 23 of DisputeHonest. -/
import Derived.Test.YtmehofoficaelaaGreatDoorH16
set_option linter.all false
namespace Go.Proofs.YtmehofoficaelaaGreatDoor
open Go Go.AL Classical
set_option maxRecDepth 100000
set_option maxHeartbeats 4000000
theorem f179(n a b:Int):Wf T 231 [.i n,.i a,.i b] [] (Is (.b (decide (a<=n/\n<=b)))):=by
 refine Yg Ih ?_;simp[Ih];exact lZ
 all_goals simp[*]
theorem f180(g:fu)(hg:nv g)(n:Int)(a : -1<=n/\n<g.size):Wf T 232 [.i n,.fH [.fn (.func 231) [] []],.fH [.i g.size,.sl 1 (g.next.map fI),dI g.iO]] [] (Is (.b false)):=by have hs:=hg.size;refine Yg Ii ?_;simp[Ii];refine fo ?_;refine Yc (f179 n (-1) (g.size-1)) ?_;simp[show -1<=n/\n<=g.size-1 by omega]
theorem abz(g:fu)(hg:nv g)(l:List Int)(hl:∀n∈l,-1<=n/\n<g.size)(b:l.length<=9):Wf T 230 [dI l,.fn (.func 232) [] [.fH [.fn (.func 231) [] []],.fH [.i g.size,.sl 1 (g.next.map fI),dI g.iO]]] [] (Is (.i (-1))):=by
 refine Yg Bc ?_;simp[Bc];refine fE.e (0:Int) (λy=>[(0,dI l),(1,.fn (.func 232) [] [.fH [.fn (.func 231) [] []],.fH [.i g.size,.sl 1 (g.next.map fI),dI g.iO]]),(7,.i l.length),(8,.i y)]) (λy=>[]) (λy=>0<=y/\y<=l.length) (λy=>(l.length-y).toNat) ?_ ?_
 .simp
 rintro i ⟨i0,a⟩
 by_cases hi:i<l.length
 .simp[hi];refine fo ?_;refine Yc (f180 g hg (gt l i) (hl _ (fM i0 hi))) ?_;simp;refine fo ?_;refine LJ.e (i+1) ?_;exact mb
 .simp[hi]
theorem abw(g:fu)(hg:nv g)(l:List Int)(hl:∀n∈l,-1<=n/\n<g.size)(a:l.length<=9):Wf T 170 [dI l,.fn (.func 232) [] [.fH [.fn (.func 231) [] []],.fH [.i g.size,.sl 1 (g.next.map fI),dI g.iO]]] [] (Is (.b false)):=by refine Yg Bb ?_;simp[Bb];refine Yc (abz g hg l hl a) ?_;simp
theorem f137(g:fu)(hg:nv g):Wf T 172 [g.jb] [] (Is (.b true)):=by
 have hs:=hg.size;have b:=hg.next
 have a:=hg.iO;refine Yg HR ?_;simp[HR,b];refine Yc (f179 g.size 1 64) ?_;simp[show 1<=g.size/\g.size<=64 by omega];refine Yc (f179 8 1 8) ?_;simp;(with_reducible repeat' first|refine Xk ?_<;>try simp[b,a]|refine Xs ?_ ?_<;>intro h<;>(try intro e)<;>(try simp[h,b,a])<;>try omega|refine Xg ?_|omega);refine fE.e (0:Int) (λy=>[(1,.ptr 0 0 0),(3,.i 8),(4,.ptr 1 0 0),(29,.sl 1 (g.next.map fI)),(30,.i 8),(31,.i y)]) (λy=>[.row 39 0 [.i g.size,.sl 1 (g.next.map fI),dI g.iO],.row 345 0 [.fn (.func 231) [] []]]) (λy=>0<=y/\y<=8) (λy=>(8-y).toNat) ?_ ?_
 .simp
 rintro i ⟨i0,f⟩
 by_cases hi:i<8
 .have c:=hg.row _ (fM (l:=g.next) i0 (by omega));have d:=hg.turns i i0 hi;simp[hi,c.1,b];(with_reducible repeat' first|refine Xk ?_<;>try simp[c.1,b]|refine Xs ?_ ?_<;>intro h<;>(try intro e)<;>(try simp[h,c.1,b])<;>try omega|refine Xg ?_|omega);refine Yr (abw g hg _ c.2 (by omega)) ?_;simp;refine ja a ?_;refine Yt (f179 (gt g.iO i) 0 7) ?_;simp[show 0<=gt g.iO i/\gt g.iO i<=7 by omega,a,d.2.2];(with_reducible repeat' first|refine Xk ?_<;>try simp[a,d.2.2]|refine Xs ?_ ?_<;>intro h<;>(try intro e)<;>(try simp[h,a,d.2.2])<;>try omega|refine Xg ?_|omega);refine LJ.e (i+1) ?_;exact mb
 .simp[hi]
theorem f138(n:Int):Wf T 173 [.i n] [] (Is (.b (decide (1<=n/\n<=3)))):=by
 refine Yg HS ?_;simp[HS];exact lZ
 all_goals simp[*]
def AF(n:Int):Int:=if n=1\/n=2\/n=7 then 1 else if n=8 then 2 else if n=9\/n=10 then 3 else 0
theorem f182(n:Int)(b:1<=n/\n<=10):∃a,Wf T 234 [.i n] [] (Is (.tup [.agg [.val (.string a),.i (AF n)],.b true])):=by
 rcases(show n=1\/n=2\/n=3\/n=4\/n=5\/n=6\/n=7\/n=8\/n=9\/n=10 by omega)with rfl|rfl|rfl|rfl|rfl|rfl|rfl|rfl|rfl|rfl
 .exact⟨⟨#[103,111]⟩,nS (k:=40) (by kernel_rfl)⟩
 .exact⟨⟨#[115,108,105,100,101]⟩,nS (k:=40) (by kernel_rfl)⟩
 .exact⟨⟨#[101,109,112,116,121]⟩,nS (k:=40) (by kernel_rfl)⟩
 .exact⟨⟨#[101,110,101,109,121]⟩,nS (k:=40) (by kernel_rfl)⟩
 .exact⟨⟨#[102,114,105,101,110,100]⟩,nS (k:=40) (by kernel_rfl)⟩
 .exact⟨⟨#[116,97,107,101]⟩,nS (k:=40) (by kernel_rfl)⟩
 .exact⟨⟨#[112,117,115,104]⟩,nS (k:=40) (by kernel_rfl)⟩
 .exact⟨⟨#[98,101,99,111,109,101]⟩,nS (k:=40) (by kernel_rfl)⟩
 .exact⟨⟨#[110,101,101,100]⟩,nS (k:=40) (by kernel_rfl)⟩
 .exact⟨⟨#[108,111,115,101]⟩,nS (k:=40) (by kernel_rfl)⟩
theorem f181(kinds fY:Int)(x:fq)(a:rj 8 kinds fY x):Wf T 233 [.agg [.i x.1,.i x.2],.fH [.i 1,.i 8,.i kinds,.i fY]] [] (Is (.b false)):=by
 have h1:1<=x.1/\x.1<=10:=by unfold rj at a;omega
 obtain⟨d,c⟩:=f182 x.1 h1
 have b:(AF x.1=1/\0<=x.2/\x.2<8)\/(AF x.1=0/\0<=x.2/\x.2<1)\/(AF x.1=2/\0<=x.2/\x.2<kinds)\/(AF x.1=3/\0<=x.2/\x.2<fY):=by unfold rj at a;unfold AF;(repeat' split)<;>omega
 generalize AF x.1=k at c b;rcases b with⟨rfl,h⟩|⟨rfl,h⟩|⟨rfl,h⟩|⟨rfl,h⟩
 all_goals
  refine Yg Ij ?_;simp[Ij];refine Yc (c) ?_;simp;exact lZ
theorem f225(kinds fY:Int)(l:List fq)(hl:∀x∈l,rj 8 kinds fY x)(b:l.length<=8):Wf T 280 [gQ l,.fn (.func 233) [] [.fH [.i 1,.i 8,.i kinds,.i fY]]] [] (Is (.i (-1))):=by
 refine Yg IH ?_;simp[IH];refine fE.e (0:Int) (λy=>[(0,gQ l),(1,.fn (.func 233) [] [.fH [.i 1,.i 8,.i kinds,.i fY]]),(7,.i l.length),(8,.i y)]) (λy=>[]) (λy=>0<=y/\y<=l.length) (λy=>(l.length-y).toNat) ?_ ?_
 .simp
 rintro i ⟨i0,a⟩
 by_cases hi:i<l.length
 .simp[hi];refine fo ?_;refine Yc (f181 kinds fY (gt l i) (hl _ (fM i0 hi))) ?_;simp;refine fo ?_;refine LJ.e (i+1) ?_;exact mb
 .simp[hi]
theorem f183(kinds fY:Int)(l:List fq)(hl:∀x∈l,rj 8 kinds fY x)(a:l.length<=8):Wf T 235 [gQ l,.fn (.func 233) [] [.fH [.i 1,.i 8,.i kinds,.i fY]]] [] (Is (.b false)):=by refine Yg Ik ?_;simp[Ik];refine Yc (f225 kinds fY l hl a) ?_;simp
theorem f184(l:List fq)(f:l.length<=8)(n:Int):Wf T 236 [gQ l,.i n] [] (Is (.i (nz l n))):=by
 refine Yg Il ?_;simp[Il];refine fE.e ((0,0):Int×Int) (λy=>[(1,.i n),(5,.i y.2),(8,gQ l),(9,.i l.length),(10,.i y.1)]) (λy=>[]) (λy=>0<=y.1/\y.1<=l.length/\y.2=nz (l.take y.1.toNat) n/\0<=y.2/\y.2<=y.1) (λy=>(l.length-y.1).toNat) ?_ ?_
 .simp[nz]
 rintro⟨i,c⟩ ⟨i0,e,a,d,b⟩;dsimp only at i0 e a d b ⊢
 by_cases hi:i<l.length
 .simp[hi];refine ju ?_ ?_<;>intro h
  .refine LJ.e (i+1,c+1) ?_;refine⟨by dsimp only;omega,by dsimp only;omega,by dsimp only;omega,?_,by dsimp only;omega,by dsimp only;omega⟩;dsimp only;rw[iD i0 hi,DS,<-a,if_pos (by assumption)]
  .refine LJ.e (i+1,c) ?_;refine⟨by dsimp only;omega,by dsimp only;omega,by dsimp only;omega,?_,by dsimp only;omega,by dsimp only;omega⟩;dsimp only;rw[iD i0 hi,DS,<-a,if_neg (by assumption)];omega
 .simp[hi];rw[a,kq (by omega)]
theorem f140(g:fu)(hg:gu g)(l:List fq)(hl:vQ g l):Wf T 175 [gQ l,.i 8,.i g.kinds.length,.i g.fY] [] (Is (.b true)):=by have h1:=hl.len;have c:=hl.sS;have b:=hl.push;have a:=hl.JJ;refine Yg HV ?_;simp[HV];(with_reducible repeat' first|refine Xk ?_<;>try simp|refine Xs ?_ ?_<;>intro h<;>(try intro e)<;>(try simp[h])<;>try omega|refine Xg ?_|omega);refine Yr (f183 g.kinds.length g.fY l (λx d=>(hl.steps x d).ok) h1.2) ?_;simp;refine fo ?_;refine Yc (f184 l h1.2 6) ?_;simp;refine pR c b a ?_;refine Yc (f184 l h1.2 7) ?_;simp;refine pR c b a ?_;refine Yc (f184 l h1.2 8) ?_;simp;exact YE c b a
theorem f139(g:fu)(hg:gu g)(l:List fq)(hl:vQ g l):Wf T 174 [gQ l,.fH g.cells] [] (Is (.b false)):=by
 have h1:=hg.jb.next
 refine Yg HT ?_;simp[HT,h1];refine Yc (f140 g hg l hl) ?_;simp
theorem ajY:Wf T 176 [.val (.string ⟨#[97]⟩)] [] (Is (.b true)):=nS (k:=100) (by kernel_rfl)
theorem ajZ:Wf T 176 [.val (.string ⟨#[98,101,101]⟩)] [] (Is (.b true)):=nS (k:=100) (by kernel_rfl)
theorem f141(n:Int):Wf T 176 [.val (.string (kindName n))] [] (Is (.b true)):=by
 unfold kindName;split
 .exact ajY
 .exact ajZ
theorem f188(k:Kind)(s:ByteArray):Wf T 240 [.agg k.cells,.fH [.val (.string s)]] [] (Is (.b (decide (k.name=s)))):=by refine Yg Io ?_;simp[Io]
theorem f187(g:fu)(hg:gu g)(n:Int)(d:0<=n/\n<g.kinds.length):Wf T 239 [.sl 3 (g.kinds.map Kind.cells),.fn (.func 240) [] [.fH [.val (.string (kindName n))]]] [] (Is (.i n)):=by
 have e:=hg.kinds;refine Yg Im ?_;simp[Im];refine fE.e (0:Int) (λy=>[(0,.sl 3 (g.kinds.map Kind.cells)),(1,.fn (.func 240) [] [.fH [.val (.string (kindName n))]]),(7,.i g.kinds.length),(8,.i y)]) (λy=>[]) (λy=>0<=y/\y<=n) (λy=>(g.kinds.length-y).toNat) ?_ ?_
 .simp;omega
 rintro i ⟨i0,c⟩;have hi:i<g.kinds.length:=by omega
 simp[hi];refine fo ?_;refine Yc (f188 (gt g.kinds i) (kindName n)) ?_;simp;have a:=hg.names i i0 hi
 by_cases fZ:i=n
 .subst fZ;simp[a]
 .have b:¬kindName i=kindName n:=by
   unfold kindName;have:i=0:=by omega
   rw[if_pos this,if_neg (by omega)];decide
  simp[a,b];refine fo ?_;refine LJ.e (i+1) ?_;exact mb
theorem f142(g:fu)(hg:gu g)(n:Int)(a:0<=n/\n<g.kinds.length):Wf T 177 [dG g,.val (.string (kindName n))] [] (Is (.i n)):=by refine Yg HW ?_;simp[HW];refine Yr (f187 g hg n a) ?_;simp
theorem f189(g:fu)(hg:gu g)(l:List (List fq))(hl:∀x∈l,vQ g x)(b:l.length<=4):Wf T 241 [dN 1 fP l,.fn (.func 174) [] [.fH g.cells]] [] (Is (.i (-1))):=by
 refine Yg Ip ?_;simp[Ip];refine fE.e (0:Int) (λy=>[(0,dN 1 fP l),(1,.fn (.func 174) [] [.fH g.cells]),(7,.i l.length),(8,.i y)]) (λy=>[]) (λy=>0<=y/\y<=l.length) (λy=>(l.length-y).toNat) ?_ ?_
 .simp
 rintro i ⟨i0,a⟩
 by_cases hi:i<l.length
 .simp[hi];refine fo ?_;refine Yc (f139 g hg (gt l i) (hl _ (fM i0 hi))) ?_;simp;refine fo ?_;refine LJ.e (i+1) ?_;exact mb
 .simp[hi]
theorem f143(g:fu)(hg:gu g)(l:List (List fq))(hl:∀x∈l,vQ g x)(a:l.length<=4):Wf T 178 [dN 1 fP l,.fn (.func 174) [] [.fH g.cells]] [] (Is (.b false)):=by refine Yg HX ?_;simp[HX];refine Yc (f189 g hg l hl a) ?_;simp
theorem f146(g:fu)(hg:gu g)(c:Clause)(a:A3 g c):Wf T 181 [dG g,.agg c.cells] [] (Is (.b true)):=by
 have h1:=a.ok;have b:=a.out;refine Yg H4 ?_;simp[H4];(with_reducible repeat' first|refine Xk ?_<;>try simp|refine Xs ?_ ?_<;>intro h<;>(try intro d)<;>(try simp[h])<;>try omega|refine Xg ?_|omega)
 all_goals
  refine fL.r rfl rfl (f138 c.out) (by simp) (by simp[flat]) (by simp) ?_;simp[b.1,b.2];exact lZ
theorem f145(g:fu)(hg:gu g)(c:Clause)(a:A3 g c):Wf T 180 [.agg c.cells,.fH g.cells] [] (Is (.b false)):=by refine Yg HZ ?_;simp[HZ];refine Yc (f146 g hg c a) ?_;simp
theorem f190(g:fu)(hg:gu g)(l:List Clause)(hl:∀x∈l,A3 g x)(b:l.length<=4):Wf T 242 [dN 4 Clause.cells l,.fn (.func 180) [] [.fH g.cells]] [] (Is (.i (-1))):=by
 refine Yg Iq ?_;simp[Iq];refine fE.e (0:Int) (λy=>[(0,dN 4 Clause.cells l),(1,.fn (.func 180) [] [.fH g.cells]),(7,.i l.length),(8,.i y)]) (λy=>[]) (λy=>0<=y/\y<=l.length) (λy=>(l.length-y).toNat) ?_ ?_
 .simp
 rintro i ⟨i0,a⟩
 by_cases hi:i<l.length
 .simp[hi];refine fo ?_;refine Yc (f145 g hg (gt l i) (hl _ (fM i0 hi))) ?_;simp;refine fo ?_;refine LJ.e (i+1) ?_;exact mb
 .simp[hi]
theorem f144(g:fu)(hg:gu g)(l:List Clause)(hl:∀x∈l,A3 g x)(a:l.length<=4):Wf T 179 [dN 4 Clause.cells l,.fn (.func 180) [] [.fH g.cells]] [] (Is (.b false)):=by refine Yg HY ?_;simp[HY];refine Yc (f190 g hg l hl a) ?_;simp
theorem f98(g:fu)(hg:gu g):Wf T 110 [dG g] [] (Is (.b true)):=by
 have k:=hg.kinds;have j:=hg.fY;have l:=hg.clauses;have e:=hg.blocked;have d:=hg.u4;refine Yg Jx ?_;simp[Jx];refine Yc (f137 g hg.jb) ?_;simp;(with_reducible repeat' first|refine Xk ?_<;>try simp|refine Xs ?_ ?_<;>intro h<;>(try intro b)<;>(try simp[h])<;>try omega|refine Xg ?_|omega);refine fL.r rfl rfl (f138 g.blocked) (by simp) (by simp[flat]) (by simp) ?_;simp[e];(with_reducible repeat' first|refine Xk ?_<;>try simp|refine Xs ?_ ?_<;>intro h<;>(try intro b)<;>(try simp[h])<;>try omega|refine Xg ?_|omega);refine fL.r rfl rfl (f138 g.u4) (by simp) (by simp[flat]) (by simp) ?_;simp[d];(with_reducible repeat' first|refine Xk ?_<;>try simp|refine Xs ?_ ?_<;>intro h<;>(try intro b)<;>(try simp[h])<;>try omega|refine Xg ?_|omega);refine fE.e (0:Int) (λy=>[(1,.ptr 0 0 0),(51,.sl 3 (g.kinds.map Kind.cells)),(52,.i g.kinds.length),(53,.i y)]) (λy=>[.row 43 0 g.cells]) (λy=>0<=y/\y<=g.kinds.length) (λy=>(g.kinds.length-y).toNat) ?_ ?_
 .simp
 rintro i ⟨i0,f⟩
 by_cases hi:i<g.kinds.length
 .have a:=hg.names i i0 hi;have c:=hg.iG _ (fM i0 hi);simp[hi,a];refine ja a ?_;refine fL.r rfl rfl (f141 i) (by simp) (by simp[flat]) (by simp) ?_;simp[a];refine ja a ?_;refine fL.r rfl rfl (f142 g hg i ⟨i0,hi⟩) (by simp) (by simp[flat]) (by simp) ?_;simp[a];(with_reducible repeat' first|refine Xk ?_<;>try simp[a]|refine Xs ?_ ?_<;>intro h<;>(try intro b)<;>(try simp[h,a])<;>try omega|refine Xg ?_|omega);refine Yr (f143 g hg _ c.2 c.1) ?_;simp;refine fo ?_;refine LJ.e (i+1) ?_;exact mb
 .simp[hi];refine fo ?_;refine Yr (f144 g hg _ hg.clause (by omega)) ?_;simp
