/- Part 23 of DisputeReferee. -/
import Derived.Test.YtmehofoficaelaaGreatDoorR16
set_option linter.all false
namespace Go.Proofs.YtmehofoficaelaaGreatDoor
open Go Go.AL Classical
set_option maxRecDepth 100000
set_option maxHeartbeats 4000000
theorem f179(n a b:Int):Wf T 231 [.i n,.i a,.i b] [] (Is (.b (decide (a<=n/\n<=b)))):=by
 refine Yg IM ?_;simp[IM];exact mE
 all_goals simp[*]
theorem f180(g:fH)(hg:nM g)(n:Int)(a : -1<=n/\n<g.size):Wf T 232 [.i n,.fV [.fn (.func 231) [] []],.fV [.i g.size,.sl 1 (g.next.map fI),dI g.iX]] [] (Is (.b false)):=by have hs:=hg.size;refine Yg IN ?_;simp[IN];refine fD ?_;refine Yc (f179 n (-1) (g.size-1)) ?_;simp[show -1<=n/\n<=g.size-1 by omega]
theorem acd(g:fH)(hg:nM g)(l:List Int)(hl:∀n∈l,-1<=n/\n<g.size)(b:l.length<=9):Wf T 230 [dI l,.fn (.func 232) [] [.fV [.fn (.func 231) [] []],.fV [.i g.size,.sl 1 (g.next.map fI),dI g.iX]]] [] (Is (.i (-1))):=by
 refine Yg BJ ?_;simp[BJ];refine fO.e (0:Int) (λy=>[(0,dI l),(1,.fn (.func 232) [] [.fV [.fn (.func 231) [] []],.fV [.i g.size,.sl 1 (g.next.map fI),dI g.iX]]),(7,.i l.length),(8,.i y)]) (λy=>[]) (λy=>0<=y/\y<=l.length) (λy=>(l.length-y).toNat) ?_ ?_
 .simp
 rintro i ⟨i0,a⟩
 by_cases hi:i<l.length
 .simp[hi];refine fD ?_;refine Yc (f180 g hg (gt l i) (hl _ (fZ i0 hi))) ?_;simp;refine fD ?_;refine LJ.e (i+1) ?_;exact mr
 .simp[hi]
theorem ab9(g:fH)(hg:nM g)(l:List Int)(hl:∀n∈l,-1<=n/\n<g.size)(a:l.length<=9):Wf T 170 [dI l,.fn (.func 232) [] [.fV [.fn (.func 231) [] []],.fV [.i g.size,.sl 1 (g.next.map fI),dI g.iX]]] [] (Is (.b false)):=by refine Yg BI ?_;simp[BI];refine Yc (acd g hg l hl a) ?_;simp
theorem f137(g:fH)(hg:nM g):Wf T 172 [g.jm] [] (Is (.b true)):=by
 have hs:=hg.size;have b:=hg.next
 have a:=hg.iX;refine Yg Ir ?_;simp[Ir,b];refine Yc (f179 g.size 1 64) ?_;simp[show 1<=g.size/\g.size<=64 by omega];refine Yc (f179 8 1 8) ?_;simp;(with_reducible repeat' first|refine Xk ?_<;>try simp[b,a]|refine Xs ?_ ?_<;>intro h<;>(try intro e)<;>(try simp[h,b,a])<;>try omega|refine Xg ?_|omega);refine fO.e (0:Int) (λy=>[(1,.ptr 0 0 0),(3,.i 8),(4,.ptr 1 0 0),(29,.sl 1 (g.next.map fI)),(30,.i 8),(31,.i y)]) (λy=>[.row 39 0 [.i g.size,.sl 1 (g.next.map fI),dI g.iX],.row 345 0 [.fn (.func 231) [] []]]) (λy=>0<=y/\y<=8) (λy=>(8-y).toNat) ?_ ?_
 .simp
 rintro i ⟨i0,f⟩
 by_cases hi:i<8
 .have c:=hg.row _ (fZ (l:=g.next) i0 (by omega));have d:=hg.turns i i0 hi;simp[hi,c.1,b];(with_reducible repeat' first|refine Xk ?_<;>try simp[c.1,b]|refine Xs ?_ ?_<;>intro h<;>(try intro e)<;>(try simp[h,c.1,b])<;>try omega|refine Xg ?_|omega);refine Yr (ab9 g hg _ c.2 (by omega)) ?_;simp;refine jw a ?_;refine Yt (f179 (gt g.iX i) 0 7) ?_;simp[show 0<=gt g.iX i/\gt g.iX i<=7 by omega,a,d.2.2];(with_reducible repeat' first|refine Xk ?_<;>try simp[a,d.2.2]|refine Xs ?_ ?_<;>intro h<;>(try intro e)<;>(try simp[h,a,d.2.2])<;>try omega|refine Xg ?_|omega);refine LJ.e (i+1) ?_;exact mr
 .simp[hi]
theorem f138(n:Int):Wf T 173 [.i n] [] (Is (.b (decide (1<=n/\n<=3)))):=by
 refine Yg Iu ?_;simp[Iu];exact mE
 all_goals simp[*]
def Ba(n:Int):Int:=if n=1\/n=2\/n=7 then 1 else if n=8 then 2 else if n=9\/n=10 then 3 else 0
theorem f182(n:Int)(b:1<=n/\n<=10):∃a,Wf T 234 [.i n] [] (Is (.tup [.agg [.val (.string a),.i (Ba n)],.b true])):=by
 rcases(show n=1\/n=2\/n=3\/n=4\/n=5\/n=6\/n=7\/n=8\/n=9\/n=10 by omega)with rfl|rfl|rfl|rfl|rfl|rfl|rfl|rfl|rfl|rfl
 .exact⟨⟨#[103,111]⟩,od (k:=40) (by kernel_rfl)⟩
 .exact⟨⟨#[115,108,105,100,101]⟩,od (k:=40) (by kernel_rfl)⟩
 .exact⟨⟨#[101,109,112,116,121]⟩,od (k:=40) (by kernel_rfl)⟩
 .exact⟨⟨#[101,110,101,109,121]⟩,od (k:=40) (by kernel_rfl)⟩
 .exact⟨⟨#[102,114,105,101,110,100]⟩,od (k:=40) (by kernel_rfl)⟩
 .exact⟨⟨#[116,97,107,101]⟩,od (k:=40) (by kernel_rfl)⟩
 .exact⟨⟨#[112,117,115,104]⟩,od (k:=40) (by kernel_rfl)⟩
 .exact⟨⟨#[98,101,99,111,109,101]⟩,od (k:=40) (by kernel_rfl)⟩
 .exact⟨⟨#[110,101,101,100]⟩,od (k:=40) (by kernel_rfl)⟩
 .exact⟨⟨#[108,111,115,101]⟩,od (k:=40) (by kernel_rfl)⟩
theorem f181(kinds gj:Int)(x:fE)(a:rJ 8 kinds gj x):Wf T 233 [.agg [.i x.1,.i x.2],.fV [.i 1,.i 8,.i kinds,.i gj]] [] (Is (.b false)):=by
 have h1:1<=x.1/\x.1<=10:=by unfold rJ at a;omega
 obtain⟨d,c⟩:=f182 x.1 h1
 have b:(Ba x.1=1/\0<=x.2/\x.2<8)\/(Ba x.1=0/\0<=x.2/\x.2<1)\/(Ba x.1=2/\0<=x.2/\x.2<kinds)\/(Ba x.1=3/\0<=x.2/\x.2<gj):=by unfold rJ at a;unfold Ba;(repeat' split)<;>omega
 generalize Ba x.1=k at c b;rcases b with⟨rfl,h⟩|⟨rfl,h⟩|⟨rfl,h⟩|⟨rfl,h⟩
 all_goals
  refine Yg IP ?_;simp[IP];refine Yc (c) ?_;simp;exact mE
theorem f225(kinds gj:Int)(l:List fE)(hl:∀x∈l,rJ 8 kinds gj x)(b:l.length<=8):Wf T 280 [gY l,.fn (.func 233) [] [.fV [.i 1,.i 8,.i kinds,.i gj]]] [] (Is (.i (-1))):=by
 refine Yg Ja ?_;simp[Ja];refine fO.e (0:Int) (λy=>[(0,gY l),(1,.fn (.func 233) [] [.fV [.i 1,.i 8,.i kinds,.i gj]]),(7,.i l.length),(8,.i y)]) (λy=>[]) (λy=>0<=y/\y<=l.length) (λy=>(l.length-y).toNat) ?_ ?_
 .simp
 rintro i ⟨i0,a⟩
 by_cases hi:i<l.length
 .simp[hi];refine fD ?_;refine Yc (f181 kinds gj (gt l i) (hl _ (fZ i0 hi))) ?_;simp;refine fD ?_;refine LJ.e (i+1) ?_;exact mr
 .simp[hi]
theorem f183(kinds gj:Int)(l:List fE)(hl:∀x∈l,rJ 8 kinds gj x)(a:l.length<=8):Wf T 235 [gY l,.fn (.func 233) [] [.fV [.i 1,.i 8,.i kinds,.i gj]]] [] (Is (.b false)):=by refine Yg IQ ?_;simp[IQ];refine Yc (f225 kinds gj l hl a) ?_;simp
theorem f184(l:List fE)(f:l.length<=8)(n:Int):Wf T 236 [gY l,.i n] [] (Is (.i (nO l n))):=by
 refine Yg IS ?_;simp[IS];refine fO.e ((0,0):Int×Int) (λy=>[(1,.i n),(5,.i y.2),(8,gY l),(9,.i l.length),(10,.i y.1)]) (λy=>[]) (λy=>0<=y.1/\y.1<=l.length/\y.2=nO (l.take y.1.toNat) n/\0<=y.2/\y.2<=y.1) (λy=>(l.length-y.1).toNat) ?_ ?_
 .simp[nO]
 rintro⟨i,c⟩ ⟨i0,e,a,d,b⟩;dsimp only at i0 e a d b ⊢
 by_cases hi:i<l.length
 .simp[hi];refine jF ?_ ?_<;>intro h
  .refine LJ.e (i+1,c+1) ?_;refine⟨by dsimp only;omega,by dsimp only;omega,by dsimp only;omega,?_,by dsimp only;omega,by dsimp only;omega⟩;dsimp only;rw[iO i0 hi,Ep,<-a,if_pos (by assumption)]
  .refine LJ.e (i+1,c) ?_;refine⟨by dsimp only;omega,by dsimp only;omega,by dsimp only;omega,?_,by dsimp only;omega,by dsimp only;omega⟩;dsimp only;rw[iO i0 hi,Ep,<-a,if_neg (by assumption)];omega
 .simp[hi];rw[a,kG (by omega)]
theorem f140(g:fH)(hg:gF g)(l:List fE)(hl:wB g l):Wf T 175 [gY l,.i 8,.i g.kinds.length,.i g.gj] [] (Is (.b true)):=by have h1:=hl.len;have c:=hl.th;have b:=hl.push;have a:=hl.Ka;refine Yg Ix ?_;simp[Ix];(with_reducible repeat' first|refine Xk ?_<;>try simp|refine Xs ?_ ?_<;>intro h<;>(try intro e)<;>(try simp[h])<;>try omega|refine Xg ?_|omega);refine Yr (f183 g.kinds.length g.gj l (λx d=>(hl.steps x d).ok) h1.2) ?_;simp;refine fD ?_;refine Yc (f184 l h1.2 6) ?_;simp;refine pe c b a ?_;refine Yc (f184 l h1.2 7) ?_;simp;refine pe c b a ?_;refine Yc (f184 l h1.2 8) ?_;simp;exact Za c b a
theorem f139(g:fH)(hg:gF g)(l:List fE)(hl:wB g l):Wf T 174 [gY l,.fV g.cells] [] (Is (.b false)):=by
 have h1:=hg.jm.next
 refine Yg Iv ?_;simp[Iv,h1];refine Yc (f140 g hg l hl) ?_;simp
theorem akD:Wf T 176 [.val (.string ⟨#[97]⟩)] [] (Is (.b true)):=od (k:=100) (by kernel_rfl)
theorem akE:Wf T 176 [.val (.string ⟨#[98,101,101]⟩)] [] (Is (.b true)):=od (k:=100) (by kernel_rfl)
theorem f141(n:Int):Wf T 176 [.val (.string (kindName n))] [] (Is (.b true)):=by
 unfold kindName;split
 .exact akD
 .exact akE
theorem f188(k:Kind)(s:ByteArray):Wf T 240 [.agg k.cells,.fV [.val (.string s)]] [] (Is (.b (decide (k.name=s)))):=by refine Yg IU ?_;simp[IU]
theorem f187(g:fH)(hg:gF g)(n:Int)(d:0<=n/\n<g.kinds.length):Wf T 239 [.sl 3 (g.kinds.map Kind.cells),.fn (.func 240) [] [.fV [.val (.string (kindName n))]]] [] (Is (.i n)):=by
 have e:=hg.kinds;refine Yg IT ?_;simp[IT];refine fO.e (0:Int) (λy=>[(0,.sl 3 (g.kinds.map Kind.cells)),(1,.fn (.func 240) [] [.fV [.val (.string (kindName n))]]),(7,.i g.kinds.length),(8,.i y)]) (λy=>[]) (λy=>0<=y/\y<=n) (λy=>(g.kinds.length-y).toNat) ?_ ?_
 .simp;omega
 rintro i ⟨i0,c⟩;have hi:i<g.kinds.length:=by omega
 simp[hi];refine fD ?_;refine Yc (f188 (gt g.kinds i) (kindName n)) ?_;simp;have a:=hg.names i i0 hi
 by_cases gq:i=n
 .subst gq;simp[a]
 .have b:¬kindName i=kindName n:=by
   unfold kindName;have:i=0:=by omega
   rw[if_pos this,if_neg (by omega)];decide
  simp[a,b];refine fD ?_;refine LJ.e (i+1) ?_;exact mr
theorem f142(g:fH)(hg:gF g)(n:Int)(a:0<=n/\n<g.kinds.length):Wf T 177 [dG g,.val (.string (kindName n))] [] (Is (.i n)):=by refine Yg Iy ?_;simp[Iy];refine Yr (f187 g hg n a) ?_;simp
theorem f189(g:fH)(hg:gF g)(l:List (List fE))(hl:∀x∈l,wB g x)(b:l.length<=4):Wf T 241 [dN 1 fP l,.fn (.func 174) [] [.fV g.cells]] [] (Is (.i (-1))):=by
 refine Yg IV ?_;simp[IV];refine fO.e (0:Int) (λy=>[(0,dN 1 fP l),(1,.fn (.func 174) [] [.fV g.cells]),(7,.i l.length),(8,.i y)]) (λy=>[]) (λy=>0<=y/\y<=l.length) (λy=>(l.length-y).toNat) ?_ ?_
 .simp
 rintro i ⟨i0,a⟩
 by_cases hi:i<l.length
 .simp[hi];refine fD ?_;refine Yc (f139 g hg (gt l i) (hl _ (fZ i0 hi))) ?_;simp;refine fD ?_;refine LJ.e (i+1) ?_;exact mr
 .simp[hi]
theorem f143(g:fH)(hg:gF g)(l:List (List fE))(hl:∀x∈l,wB g x)(a:l.length<=4):Wf T 178 [dN 1 fP l,.fn (.func 174) [] [.fV g.cells]] [] (Is (.b false)):=by refine Yg Iz ?_;simp[Iz];refine Yc (f189 g hg l hl a) ?_;simp
theorem f146(g:fH)(hg:gF g)(c:Clause)(a:Bz g c):Wf T 181 [dG g,.agg c.cells] [] (Is (.b true)):=by
 have h1:=a.ok;have b:=a.out;refine Yg IC ?_;simp[IC];(with_reducible repeat' first|refine Xk ?_<;>try simp|refine Xs ?_ ?_<;>intro h<;>(try intro d)<;>(try simp[h])<;>try omega|refine Xg ?_|omega)
 all_goals
  refine fY.r rfl rfl (f138 c.out) (by simp) (by simp[flat]) (by simp) ?_;simp[b.1,b.2];exact mE
theorem f145(g:fH)(hg:gF g)(c:Clause)(a:Bz g c):Wf T 180 [.agg c.cells,.fV g.cells] [] (Is (.b false)):=by refine Yg IB ?_;simp[IB];refine Yc (f146 g hg c a) ?_;simp
theorem f190(g:fH)(hg:gF g)(l:List Clause)(hl:∀x∈l,Bz g x)(b:l.length<=4):Wf T 242 [dN 4 Clause.cells l,.fn (.func 180) [] [.fV g.cells]] [] (Is (.i (-1))):=by
 refine Yg IW ?_;simp[IW];refine fO.e (0:Int) (λy=>[(0,dN 4 Clause.cells l),(1,.fn (.func 180) [] [.fV g.cells]),(7,.i l.length),(8,.i y)]) (λy=>[]) (λy=>0<=y/\y<=l.length) (λy=>(l.length-y).toNat) ?_ ?_
 .simp
 rintro i ⟨i0,a⟩
 by_cases hi:i<l.length
 .simp[hi];refine fD ?_;refine Yc (f145 g hg (gt l i) (hl _ (fZ i0 hi))) ?_;simp;refine fD ?_;refine LJ.e (i+1) ?_;exact mr
 .simp[hi]
theorem f144(g:fH)(hg:gF g)(l:List Clause)(hl:∀x∈l,Bz g x)(a:l.length<=4):Wf T 179 [dN 4 Clause.cells l,.fn (.func 180) [] [.fV g.cells]] [] (Is (.b false)):=by refine Yg IA ?_;simp[IA];refine Yc (f190 g hg l hl a) ?_;simp
theorem f98(g:fH)(hg:gF g):Wf T 110 [dG g] [] (Is (.b true)):=by
 have k:=hg.kinds;have j:=hg.gj;have l:=hg.clauses;have e:=hg.blocked;have d:=hg.uk;refine Yg J0 ?_;simp[J0];refine Yc (f137 g hg.jm) ?_;simp;(with_reducible repeat' first|refine Xk ?_<;>try simp|refine Xs ?_ ?_<;>intro h<;>(try intro b)<;>(try simp[h])<;>try omega|refine Xg ?_|omega);refine fY.r rfl rfl (f138 g.blocked) (by simp) (by simp[flat]) (by simp) ?_;simp[e];(with_reducible repeat' first|refine Xk ?_<;>try simp|refine Xs ?_ ?_<;>intro h<;>(try intro b)<;>(try simp[h])<;>try omega|refine Xg ?_|omega);refine fY.r rfl rfl (f138 g.uk) (by simp) (by simp[flat]) (by simp) ?_;simp[d];(with_reducible repeat' first|refine Xk ?_<;>try simp|refine Xs ?_ ?_<;>intro h<;>(try intro b)<;>(try simp[h])<;>try omega|refine Xg ?_|omega);refine fO.e (0:Int) (λy=>[(1,.ptr 0 0 0),(51,.sl 3 (g.kinds.map Kind.cells)),(52,.i g.kinds.length),(53,.i y)]) (λy=>[.row 43 0 g.cells]) (λy=>0<=y/\y<=g.kinds.length) (λy=>(g.kinds.length-y).toNat) ?_ ?_
 .simp
 rintro i ⟨i0,f⟩
 by_cases hi:i<g.kinds.length
 .have a:=hg.names i i0 hi;have c:=hg.iS _ (fZ i0 hi);simp[hi,a];refine jw a ?_;refine fY.r rfl rfl (f141 i) (by simp) (by simp[flat]) (by simp) ?_;simp[a];refine jw a ?_;refine fY.r rfl rfl (f142 g hg i ⟨i0,hi⟩) (by simp) (by simp[flat]) (by simp) ?_;simp[a];(with_reducible repeat' first|refine Xk ?_<;>try simp[a]|refine Xs ?_ ?_<;>intro h<;>(try intro b)<;>(try simp[h,a])<;>try omega|refine Xg ?_|omega);refine Yr (f143 g hg _ c.2 c.1) ?_;simp;refine fD ?_;refine LJ.e (i+1) ?_;exact mr
 .simp[hi];refine fD ?_;refine Yr (f144 g hg _ hg.clause (by omega)) ?_;simp
