/- Part 28 of DisputeLocal. -/
import Derived.Test.YtmehofoficaelaaGreatDoorL19
set_option linter.all false
namespace Go.Proofs.YtmehofoficaelaaGreatDoor
open Go Go.AL Classical
set_option maxRecDepth 100000
set_option maxHeartbeats 4000000
def f179(n a b:Int):Wf T 231 [.i n,.i a,.i b] [] (Is (.b (decide (a≤n∧n≤b)))):=by
 refine Yg ES ?_
 simp[ES]
 (with_reducible repeat' first|refine Xk ?_<;>try simp|refine Xs ?_ ?_<;>intro h<;>(try intro h')<;>(try simp[h])<;>try omega|refine Xg ?_|omega)
 all_goals simp[*]
def f180(g:eY)(hg:mY g)(n:Int)(hn : -1≤n∧n<g.size):Wf T 232 [.i n,.fj [.fn (.func 231) [] []],.fj [.i g.size,.sl 1 (g.next.map fI),dI g.iT]] [] (Is (.b false)):=by
 have hs:=hg.size
 refine Yg ET ?_
 simp[ET]
 (with_reducible repeat' first|refine Xk ?_<;>try simp|refine Xs ?_ ?_<;>intro h<;>(try intro h')<;>(try simp[h])<;>try omega|refine Xg ?_|omega)
 refine Yc (f179 n (-1) (g.size-1)) ?_
 simp[show -1≤n∧n≤g.size-1 by omega]
def Wi(g:eY)(hg:mY g)(l:List Int)(hl:∀ n∈l,-1≤n∧n<g.size)(h9:l.length≤9):Wf T 230 [dI l,.fn (.func 232) [] [.fj [.fn (.func 231) [] []],.fj [.i g.size,.sl 1 (g.next.map fI),dI g.iT]]] [] (Is (.i (-1))):=by
 refine Yg yQ ?_
 simp[yQ]
 refine fh.e (0:Int) (fun y=>[(0,dI l),(1,.fn (.func 232) [] [.fj [.fn (.func 231) [] []],.fj [.i g.size,.sl 1 (g.next.map fI),dI g.iT]]),(7,.i l.length),(8,.i y)]) (fun y=>[]) (fun y=>0≤y∧y≤l.length) (fun y=>(l.length-y).toNat) ?_ ?_
 ·simp
 rintro i ⟨i0,i1⟩
 by_cases hi:i<l.length
 ·simp[hi]
  (with_reducible repeat' first|refine Xk ?_<;>try simp|refine Xs ?_ ?_<;>intro h<;>(try intro h')<;>(try simp[h])<;>try omega|refine Xg ?_|omega)
  refine Yc (f180 g hg (gt l i) (hl _ (ft i0 hi))) ?_
  simp
  (with_reducible repeat' first|refine Xk ?_<;>try simp|refine Xs ?_ ?_<;>intro h<;>(try intro h')<;>(try simp[h])<;>try omega|refine Xg ?_|omega)
  refine LJ.e (i+1) ?_
  exact mW
 ·simp[hi]
def Wg(g:eY)(hg:mY g)(l:List Int)(hl:∀ n∈l,-1≤n∧n<g.size)(h9:l.length≤9):Wf T 170 [dI l,.fn (.func 232) [] [.fj [.fn (.func 231) [] []],.fj [.i g.size,.sl 1 (g.next.map fI),dI g.iT]]] [] (Is (.b false)):=by
 refine Yg yP ?_
 simp[yP]
 refine Yc (Wi g hg l hl h9) ?_
 simp
def f137(g:eY)(hg:mY g):Wf T 172 [g.iY] [] (Is (.b true)):=by
 have hs:=hg.size
 have hn:=hg.next
 have ht:=hg.iT
 refine Yg Ez ?_
 simp[Ez,hn]
 refine Yc (f179 g.size 1 64) ?_
 simp[show 1≤g.size∧g.size≤64 by omega]
 refine Yc (f179 8 1 8) ?_
 simp
 (with_reducible repeat' first|refine Xk ?_<;>try simp[hn,ht]|refine Xs ?_ ?_<;>intro h<;>(try intro h')<;>(try simp[h,hn,ht])<;>try omega|refine Xg ?_|omega)
 refine fh.e (0:Int) (fun y=>[(1,.ptr 0 0 0),(3,.i 8),(4,.ptr 1 0 0),(29,.sl 1 (g.next.map fI)),(30,.i 8),(31,.i y)]) (fun y=>[.row 39 0 [.i g.size,.sl 1 (g.next.map fI),dI g.iT],.row 345 0 [.fn (.func 231) [] []]]) (fun y=>0≤y∧y≤8) (fun y=>(8-y).toNat) ?_ ?_
 ·simp
 rintro i ⟨i0,i1⟩
 by_cases hi:i<8
 ·have hr:=hg.row _ (ft (l:=g.next) i0 (by omega))
  have Lt:=hg.turns i i0 hi
  simp[hi,hr.1,hn]
  (with_reducible repeat' first|refine Xk ?_<;>try simp[hr.1,hn]|refine Xs ?_ ?_<;>intro h<;>(try intro h')<;>(try simp[h,hr.1,hn])<;>try omega|refine Xg ?_|omega)
  refine Yr (Wg g hg _ hr.2 (by omega)) ?_
  simp
  (with_reducible repeat' first|refine Xk ?_<;>try simp[ht]|refine Xs ?_ ?_<;>intro h<;>(try intro h')<;>(try simp[h,ht])<;>try omega|refine Xg ?_|omega)
  refine Yt (f179 (gt g.iT i) 0 7) ?_
  simp[show 0≤gt g.iT i∧gt g.iT i≤7 by omega,ht,Lt.2.2]
  (with_reducible repeat' first|refine Xk ?_<;>try simp[ht,Lt.2.2]|refine Xs ?_ ?_<;>intro h<;>(try intro h')<;>(try simp[h,ht,Lt.2.2])<;>try omega|refine Xg ?_|omega)
  refine LJ.e (i+1) ?_
  exact mW
 ·simp[hi]
def f138(n:Int):Wf T 173 [.i n] [] (Is (.b (decide (1≤n∧n≤3)))):=by
 refine Yg EA ?_
 simp[EA]
 (with_reducible repeat' first|refine Xk ?_<;>try simp|refine Xs ?_ ?_<;>intro h<;>(try intro h')<;>(try simp[h])<;>try omega|refine Xg ?_|omega)
 all_goals simp[*]
def yi(n:Int):Int:=if n=1∨n=2∨n=7 then 1 else if n=8 then 2 else if n=9∨n=10 then 3 else 0
def f182(n:Int)(hn:1≤n∧n≤10):∃ nm,Wf T 234 [.i n] [] (Is (.tup [.agg [.val (.string nm),.i (yi n)],.b true])):=by
 rcases(show n=1∨n=2∨n=3∨n=4∨n=5∨n=6∨n=7∨n=8∨n=9∨n=10 by omega)with rfl|rfl|rfl|rfl|rfl|rfl|rfl|rfl|rfl|rfl
 ·exact⟨⟨#[103,111]⟩,nV (k:=40) (by kernel_rfl)⟩
 ·exact⟨⟨#[115,108,105,100,101]⟩,nV (k:=40) (by kernel_rfl)⟩
 ·exact⟨⟨#[101,109,112,116,121]⟩,nV (k:=40) (by kernel_rfl)⟩
 ·exact⟨⟨#[101,110,101,109,121]⟩,nV (k:=40) (by kernel_rfl)⟩
 ·exact⟨⟨#[102,114,105,101,110,100]⟩,nV (k:=40) (by kernel_rfl)⟩
 ·exact⟨⟨#[116,97,107,101]⟩,nV (k:=40) (by kernel_rfl)⟩
 ·exact⟨⟨#[112,117,115,104]⟩,nV (k:=40) (by kernel_rfl)⟩
 ·exact⟨⟨#[98,101,99,111,109,101]⟩,nV (k:=40) (by kernel_rfl)⟩
 ·exact⟨⟨#[110,101,101,100]⟩,nV (k:=40) (by kernel_rfl)⟩
 ·exact⟨⟨#[108,111,115,101]⟩,nV (k:=40) (by kernel_rfl)⟩
def f181(kinds fH:Int)(x:fe)(hx:pT 8 kinds fH x):Wf T 233 [.agg [.i x.1,.i x.2],.fj [.i 1,.i 8,.i kinds,.i fH]] [] (Is (.b false)):=by
 have h1:1≤x.1∧x.1≤10:=by unfold pT at hx;omega
 obtain⟨nm,hf⟩:=f182 x.1 h1
 have hk:(yi x.1=1∧0≤x.2∧x.2<8)∨(yi x.1=0∧0≤x.2∧x.2<1)∨(yi x.1=2∧0≤x.2∧x.2<kinds)∨(yi x.1=3∧0≤x.2∧x.2<fH):=by
  unfold pT at hx;unfold yi
  (repeat' split)<;>omega
 generalize yi x.1=k at hf hk
 rcases hk with⟨rfl,h⟩|⟨rfl,h⟩|⟨rfl,h⟩|⟨rfl,h⟩
 all_goals
  refine Yg EU ?_
  simp[EU]
  refine Yc (hf) ?_
  simp
  (with_reducible repeat' first|refine Xk ?_<;>try simp|refine Xs ?_ ?_<;>intro h<;>(try intro h')<;>(try simp[h])<;>try omega|refine Xg ?_|omega)
def f225(kinds fH:Int)(l:List fe)(hl:∀ x∈l,pT 8 kinds fH x)(h9:l.length≤8):Wf T 280 [gS l,.fn (.func 233) [] [.fj [.i 1,.i 8,.i kinds,.i fH]]] [] (Is (.i (-1))):=by
 refine Yg Fg ?_
 simp[Fg]
 refine fh.e (0:Int) (fun y=>[(0,gS l),(1,.fn (.func 233) [] [.fj [.i 1,.i 8,.i kinds,.i fH]]),(7,.i l.length),(8,.i y)]) (fun y=>[]) (fun y=>0≤y∧y≤l.length) (fun y=>(l.length-y).toNat) ?_ ?_
 ·simp
 rintro i ⟨i0,i1⟩
 by_cases hi:i<l.length
 ·simp[hi]
  (with_reducible repeat' first|refine Xk ?_<;>try simp|refine Xs ?_ ?_<;>intro h<;>(try intro h')<;>(try simp[h])<;>try omega|refine Xg ?_|omega)
  refine Yc (f181 kinds fH (gt l i) (hl _ (ft i0 hi))) ?_
  simp
  (with_reducible repeat' first|refine Xk ?_<;>try simp|refine Xs ?_ ?_<;>intro h<;>(try intro h')<;>(try simp[h])<;>try omega|refine Xg ?_|omega)
  refine LJ.e (i+1) ?_
  exact mW
 ·simp[hi]
def f183(kinds fH:Int)(l:List fe)(hl:∀ x∈l,pT 8 kinds fH x)(h9:l.length≤8):Wf T 235 [gS l,.fn (.func 233) [] [.fj [.i 1,.i 8,.i kinds,.i fH]]] [] (Is (.b false)):=by
 refine Yg EV ?_
 simp[EV]
 refine Yc (f225 kinds fH l hl h9) ?_
 simp
def f184(l:List fe)(h9:l.length≤8)(n:Int):Wf T 236 [gS l,.i n] [] (Is (.i (nb l n))):=by
 refine Yg EW ?_
 simp[EW]
 refine fh.e ((0,0):Int×Int) (fun y=>[(1,.i n),(5,.i y.2),(8,gS l),(9,.i l.length),(10,.i y.1)]) (fun y=>[]) (fun y=>0≤y.1∧y.1≤l.length∧y.2=nb (l.take y.1.toNat) n∧0≤y.2∧y.2≤y.1) (fun y=>(l.length-y.1).toNat) ?_ ?_
 ·simp[nb]
 rintro⟨i,c⟩ ⟨i0,i1,i2,i3,i4⟩
 dsimp only at i0 i1 i2 i3 i4 ⊢
 by_cases hi:i<l.length
 ·simp[hi]
  (with_reducible repeat' first|refine Xk ?_<;>try simp|refine Xs ?_ ?_<;>intro h<;>(try intro h')<;>(try simp[h])<;>try omega|refine Xg ?_|omega)
  ·refine LJ.e (i+1,c+1) ?_
   refine⟨by dsimp only;omega,by dsimp only;omega,by dsimp only;omega,?_,by dsimp only;omega,by dsimp only;omega⟩
   dsimp only
   rw[iD i0 hi,Bk,← i2,if_pos (by assumption)]
  ·refine LJ.e (i+1,c) ?_
   refine⟨by dsimp only;omega,by dsimp only;omega,by dsimp only;omega,?_,by dsimp only;omega,by dsimp only;omega⟩
   dsimp only
   rw[iD i0 hi,Bk,← i2,if_neg (by assumption)];omega
 ·simp[hi]
  rw[i2,ky (by omega)]
def f140(g:eY)(hg:gh g)(l:List fe)(hl:tP g l):Wf T 175 [gS l,.i 8,.i g.kinds.length,.i g.fH] [] (Is (.b true)):=by
 have h1:=hl.len
 have h2:=hl.qU
 have h3:=hl.push
 have h4:=hl.Gl
 refine Yg ED ?_
 simp[ED]
 (with_reducible repeat' first|refine Xk ?_<;>try simp|refine Xs ?_ ?_<;>intro h<;>(try intro h')<;>(try simp[h])<;>try omega|refine Xg ?_|omega)
 refine Yr (f183 g.kinds.length g.fH l (fun x hx=>(hl.steps x hx).ok) h1.2) ?_
 simp
 (with_reducible repeat' first|refine Xk ?_<;>try simp|refine Xs ?_ ?_<;>intro h<;>(try intro h')<;>(try simp[h])<;>try omega|refine Xg ?_|omega)
 refine Yc (f184 l h1.2 6) ?_
 simp
 (with_reducible repeat' first|refine Xk ?_<;>try simp[h2,h3,h4]|refine Xs ?_ ?_<;>intro h<;>(try intro h')<;>(try simp[h,h2,h3,h4])<;>try omega|refine Xg ?_|omega)
 refine Yc (f184 l h1.2 7) ?_
 simp
 (with_reducible repeat' first|refine Xk ?_<;>try simp[h2,h3,h4]|refine Xs ?_ ?_<;>intro h<;>(try intro h')<;>(try simp[h,h2,h3,h4])<;>try omega|refine Xg ?_|omega)
 refine Yc (f184 l h1.2 8) ?_
 simp
 (with_reducible repeat' first|refine Xk ?_<;>try simp[h2,h3,h4]|refine Xs ?_ ?_<;>intro h<;>(try intro h')<;>(try simp[h,h2,h3,h4])<;>try omega|refine Xg ?_|omega)
def f139(g:eY)(hg:gh g)(l:List fe)(hl:tP g l):Wf T 174 [gS l,.fj g.cells] [] (Is (.b false)):=by
 have h1:=hg.iY.next
 refine Yg EB ?_
 simp[EB,h1]
 refine Yc (f140 g hg l hl) ?_
 simp
def afO:Wf T 176 [.val (.string ⟨#[97]⟩)] [] (Is (.b true)):=nV (k:=100) (by kernel_rfl)
def afP:Wf T 176 [.val (.string ⟨#[98,101,101]⟩)] [] (Is (.b true)):=nV (k:=100) (by kernel_rfl)
def f141(n:Int):Wf T 176 [.val (.string (kindName n))] [] (Is (.b true)):=by
 unfold kindName
 split
 ·exact afO
 ·exact afP
def f188(k:Kind)(s:ByteArray):Wf T 240 [.agg k.cells,.fj [.val (.string s)]] [] (Is (.b (decide (k.name=s)))):=by
 refine Yg EY ?_
 simp[EY]
def f187(g:eY)(hg:gh g)(n:Int)(hn:0≤n∧n<g.kinds.length):Wf T 239 [.sl 3 (g.kinds.map Kind.cells),.fn (.func 240) [] [.fj [.val (.string (kindName n))]]] [] (Is (.i n)):=by
 have hk:=hg.kinds
 refine Yg EX ?_
 simp[EX]
 refine fh.e (0:Int) (fun y=>[(0,.sl 3 (g.kinds.map Kind.cells)),(1,.fn (.func 240) [] [.fj [.val (.string (kindName n))]]),(7,.i g.kinds.length),(8,.i y)]) (fun y=>[]) (fun y=>0≤y∧y≤n) (fun y=>(g.kinds.length-y).toNat) ?_ ?_
 ·simp;omega
 rintro i ⟨i0,i1⟩
 have hi:i<g.kinds.length:=by omega
 simp[hi]
 (with_reducible repeat' first|refine Xk ?_<;>try simp|refine Xs ?_ ?_<;>intro h<;>(try intro h')<;>(try simp[h])<;>try omega|refine Xg ?_|omega)
 refine Yc (f188 (gt g.kinds i) (kindName n)) ?_
 simp
 have rl:=hg.names i i0 hi
 by_cases fM:i=n
 ·subst fM
  simp[rl]
 ·have hd:¬ kindName i=kindName n:=by
   unfold kindName
   have:i=0:=by omega
   rw[if_pos this,if_neg (by omega)]
   decide
  simp[rl,hd]
  (with_reducible repeat' first|refine Xk ?_<;>try simp|refine Xs ?_ ?_<;>intro h<;>(try intro h')<;>(try simp[h])<;>try omega|refine Xg ?_|omega)
  refine LJ.e (i+1) ?_
  exact mW
def f142(g:eY)(hg:gh g)(n:Int)(hn:0≤n∧n<g.kinds.length):Wf T 177 [dG g,.val (.string (kindName n))] [] (Is (.i n)):=by
 refine Yg EE ?_
 simp[EE]
 refine Yr (f187 g hg n hn) ?_
 simp
def f189(g:eY)(hg:gh g)(l:List (List fe))(hl:∀ x∈l,tP g x)(h9:l.length≤4):Wf T 241 [dN 1 fP l,.fn (.func 174) [] [.fj g.cells]] [] (Is (.i (-1))):=by
 refine Yg EZ ?_
 simp[EZ]
 refine fh.e (0:Int) (fun y=>[(0,dN 1 fP l),(1,.fn (.func 174) [] [.fj g.cells]),(7,.i l.length),(8,.i y)]) (fun y=>[]) (fun y=>0≤y∧y≤l.length) (fun y=>(l.length-y).toNat) ?_ ?_
 ·simp
 rintro i ⟨i0,i1⟩
 by_cases hi:i<l.length
 ·simp[hi]
  (with_reducible repeat' first|refine Xk ?_<;>try simp|refine Xs ?_ ?_<;>intro h<;>(try intro h')<;>(try simp[h])<;>try omega|refine Xg ?_|omega)
  refine Yc (f139 g hg (gt l i) (hl _ (ft i0 hi))) ?_
  simp
  (with_reducible repeat' first|refine Xk ?_<;>try simp|refine Xs ?_ ?_<;>intro h<;>(try intro h')<;>(try simp[h])<;>try omega|refine Xg ?_|omega)
  refine LJ.e (i+1) ?_
  exact mW
 ·simp[hi]
def f143(g:eY)(hg:gh g)(l:List (List fe))(hl:∀ x∈l,tP g x)(h9:l.length≤4):Wf T 178 [dN 1 fP l,.fn (.func 174) [] [.fj g.cells]] [] (Is (.b false)):=by
 refine Yg EF ?_
 simp[EF]
 refine Yc (f189 g hg l hl h9) ?_
 simp
def f146(g:eY)(hg:gh g)(c:Clause)(hc:yK g c):Wf T 181 [dG g,.agg c.cells] [] (Is (.b true)):=by
 have h1:=hc.ok
 have h2:=hc.out
 refine Yg EI ?_
 simp[EI]
 (with_reducible repeat' first|refine Xk ?_<;>try simp|refine Xs ?_ ?_<;>intro h<;>(try intro h')<;>(try simp[h])<;>try omega|refine Xg ?_|omega)
 all_goals
  refine fG.r rfl rfl (f138 c.out) (by simp) (by simp[flat]) (by simp) ?_
  simp[h2.1,h2.2]
  (with_reducible repeat' first|refine Xk ?_<;>try simp|refine Xs ?_ ?_<;>intro h<;>(try intro h')<;>(try simp[h])<;>try omega|refine Xg ?_|omega)
def f145(g:eY)(hg:gh g)(c:Clause)(hc:yK g c):Wf T 180 [.agg c.cells,.fj g.cells] [] (Is (.b false)):=by
 refine Yg EH ?_
 simp[EH]
 refine Yc (f146 g hg c hc) ?_
 simp
def f190(g:eY)(hg:gh g)(l:List Clause)(hl:∀ x∈l,yK g x)(h9:l.length≤4):Wf T 242 [dN 4 Clause.cells l,.fn (.func 180) [] [.fj g.cells]] [] (Is (.i (-1))):=by
 refine Yg E0 ?_
 simp[E0]
 refine fh.e (0:Int) (fun y=>[(0,dN 4 Clause.cells l),(1,.fn (.func 180) [] [.fj g.cells]),(7,.i l.length),(8,.i y)]) (fun y=>[]) (fun y=>0≤y∧y≤l.length) (fun y=>(l.length-y).toNat) ?_ ?_
 ·simp
 rintro i ⟨i0,i1⟩
 by_cases hi:i<l.length
 ·simp[hi]
  (with_reducible repeat' first|refine Xk ?_<;>try simp|refine Xs ?_ ?_<;>intro h<;>(try intro h')<;>(try simp[h])<;>try omega|refine Xg ?_|omega)
  refine Yc (f145 g hg (gt l i) (hl _ (ft i0 hi))) ?_
  simp
  (with_reducible repeat' first|refine Xk ?_<;>try simp|refine Xs ?_ ?_<;>intro h<;>(try intro h')<;>(try simp[h])<;>try omega|refine Xg ?_|omega)
  refine LJ.e (i+1) ?_
  exact mW
 ·simp[hi]
def f144(g:eY)(hg:gh g)(l:List Clause)(hl:∀ x∈l,yK g x)(h9:l.length≤4):Wf T 179 [dN 4 Clause.cells l,.fn (.func 180) [] [.fj g.cells]] [] (Is (.b false)):=by
 refine Yg EG ?_
 simp[EG]
 refine Yc (f190 g hg l hl h9) ?_
 simp
def f98(g:eY)(hg:gh g):Wf T 110 [dG g] [] (Is (.b true)):=by
 have hk:=hg.kinds
 have hr:=hg.fH
 have hc:=hg.clauses
 have hb:=hg.blocked
 have he:=hg.vz
 refine Yg Gd ?_
 simp[Gd]
 refine Yc (f137 g hg.iY) ?_
 simp
 (with_reducible repeat' first|refine Xk ?_<;>try simp|refine Xs ?_ ?_<;>intro h<;>(try intro h')<;>(try simp[h])<;>try omega|refine Xg ?_|omega)
 refine fG.r rfl rfl (f138 g.blocked) (by simp) (by simp[flat]) (by simp) ?_
 simp[hb]
 (with_reducible repeat' first|refine Xk ?_<;>try simp|refine Xs ?_ ?_<;>intro h<;>(try intro h')<;>(try simp[h])<;>try omega|refine Xg ?_|omega)
 refine fG.r rfl rfl (f138 g.vz) (by simp) (by simp[flat]) (by simp) ?_
 simp[he]
 (with_reducible repeat' first|refine Xk ?_<;>try simp|refine Xs ?_ ?_<;>intro h<;>(try intro h')<;>(try simp[h])<;>try omega|refine Xg ?_|omega)
 refine fh.e (0:Int) (fun y=>[(1,.ptr 0 0 0),(51,.sl 3 (g.kinds.map Kind.cells)),(52,.i g.kinds.length),(53,.i y)]) (fun y=>[.row 43 0 g.cells]) (fun y=>0≤y∧y≤g.kinds.length) (fun y=>(g.kinds.length-y).toNat) ?_ ?_
 ·simp
 rintro i ⟨i0,i1⟩
 by_cases hi:i<g.kinds.length
 ·have rl:=hg.names i i0 hi
  have hp:=hg.iG _ (ft i0 hi)
  simp[hi,rl]
  (with_reducible repeat' first|refine Xk ?_<;>try simp[rl]|refine Xs ?_ ?_<;>intro h<;>(try intro h')<;>(try simp[h,rl])<;>try omega|refine Xg ?_|omega)
  refine fG.r rfl rfl (f141 i) (by simp) (by simp[flat]) (by simp) ?_
  simp[rl]
  (with_reducible repeat' first|refine Xk ?_<;>try simp[rl]|refine Xs ?_ ?_<;>intro h<;>(try intro h')<;>(try simp[h,rl])<;>try omega|refine Xg ?_|omega)
  refine fG.r rfl rfl (f142 g hg i ⟨i0,hi⟩) (by simp) (by simp[flat]) (by simp) ?_
  simp[rl]
  (with_reducible repeat' first|refine Xk ?_<;>try simp[rl]|refine Xs ?_ ?_<;>intro h<;>(try intro h')<;>(try simp[h,rl])<;>try omega|refine Xg ?_|omega)
  refine Yr (f143 g hg _ hp.2 hp.1) ?_
  simp
  (with_reducible repeat' first|refine Xk ?_<;>try simp|refine Xs ?_ ?_<;>intro h<;>(try intro h')<;>(try simp[h])<;>try omega|refine Xg ?_|omega)
  refine LJ.e (i+1) ?_
  exact mW
 ·simp[hi]
  (with_reducible repeat' first|refine Xk ?_<;>try simp|refine Xs ?_ ?_<;>intro h<;>(try intro h')<;>(try simp[h])<;>try omega|refine Xg ?_|omega)
  refine Yr (f144 g hg _ hg.clause (by omega)) ?_
  simp
