/- Part 28 of TableHurry. -/
import Derived.Test.YtnaefnajkaohgaaGreatDoorG19
set_option linter.all false
namespace Go.Proofs.YtnaefnajkaohgaaGreatDoor
open Go Go.AL Classical
set_option maxRecDepth 100000
set_option maxHeartbeats 4000000
theorem f179(n a b:Int):Wf T 179 [.i n,.i a,.i b] [] (Is (.b (decide (a≤n∧n≤b)))):=by
 refine Yg AU ?_
 simp[AU]
 (with_reducible repeat' first|refine Xk ?_<;>try simp|refine Xs ?_ ?_<;>intro h<;>(try intro h')<;>(try simp[h])<;>(try omega)|refine Xg ?_|omega)
 all_goals simp[*]
theorem f180(g:ey)(hg:kT g)(n:Int)(hn : -1≤n∧n<g.size):Wf T 180 [.i n,.eG [.fn (.func 179) [] []],.eG [.i g.size,.sl 1 (g.next.map fI),dI g.gE]] [] (Is (.b false)):=by
 have hs:=hg.size
 refine Yg AV ?_
 simp[AV]
 (with_reducible repeat' first|refine Xk ?_<;>try simp|refine Xs ?_ ?_<;>intro h<;>(try intro h')<;>(try simp[h])<;>(try omega)|refine Xg ?_|omega)
 refine Yc (f179 n (-1) (g.size-1)) ?_
 simp[show -1≤n∧n≤g.size-1 by omega]
theorem P3(g:ey)(hg:kT g)(l:List Int)(hl:∀ n∈l,-1≤n∧n<g.size)(h9:l.length≤9):Wf T 178 [dI l,.fn (.func 180) [] [.eG [.fn (.func 179) [] []],.eG [.i g.size,.sl 1 (g.next.map fI),dI g.gE]]] [] (Is (.i (-1))):=by
 refine Yg vc ?_
 simp[vc]
 refine eF.e (0:Int) (fun y=>[(0,dI l),(1,.fn (.func 180) [] [.eG [.fn (.func 179) [] []],.eG [.i g.size,.sl 1 (g.next.map fI),dI g.gE]]),(7,.i l.length),(8,.i y)]) (fun y=>[]) (fun y=>0≤y∧y≤l.length) (fun y=>(l.length-y).toNat) ?_ ?_
 ·simp
 rintro i ⟨i0,i1⟩
 by_cases hi:i<l.length
 ·simp[hi]
  (with_reducible repeat' first|refine Xk ?_<;>try simp|refine Xs ?_ ?_<;>intro h<;>(try intro h')<;>(try simp[h])<;>(try omega)|refine Xg ?_|omega)
  refine Yc (f180 g hg (gt l i) (hl _ (eH i0 hi))) ?_
  simp
  (with_reducible repeat' first|refine Xk ?_<;>try simp|refine Xs ?_ ?_<;>intro h<;>(try intro h')<;>(try simp[h])<;>(try omega)|refine Xg ?_|omega)
  refine LJ.e (i+1) ?_
  exact⟨by omega,by omega,by omega⟩
 ·simp[hi]
theorem PZ(g:ey)(hg:kT g)(l:List Int)(hl:∀ n∈l,-1≤n∧n<g.size)(h9:l.length≤9):Wf T 135 [dI l,.fn (.func 180) [] [.eG [.fn (.func 179) [] []],.eG [.i g.size,.sl 1 (g.next.map fI),dI g.gE]]] [] (Is (.b false)):=by
 refine Yg vb ?_
 simp[vb]
 refine Yc (P3 g hg l hl h9) ?_
 simp
theorem f137(g:ey)(hg:kT g):Wf T 137 [g.gH] [] (Is (.b true)):=by
 have hs:=hg.size
 have hn:=hg.next
 have ht:=hg.gE
 refine Yg Ax ?_
 simp[Ax,hn]
 refine Yc (f179 g.size 1 64) ?_
 simp[show 1≤g.size∧g.size≤64 by omega]
 refine Yc (f179 8 1 8) ?_
 simp
 (with_reducible repeat' first|refine Xk ?_<;>try simp[hn,ht]|refine Xs ?_ ?_<;>intro h<;>(try intro h')<;>(try simp[h,hn,ht])<;>(try omega)|refine Xg ?_|omega)
 refine eF.e (0:Int) (fun y=>[(1,.ptr 0 0 0),(3,.i 8),(4,.ptr 1 0 0),(29,.sl 1 (g.next.map fI)),(30,.i 8),(31,.i y)]) (fun y=>[.row 37 0 [.i g.size,.sl 1 (g.next.map fI),dI g.gE],.row 174 0 [.fn (.func 179) [] []]]) (fun y=>0≤y∧y≤8) (fun y=>(8-y).toNat) ?_ ?_
 ·simp
 rintro i ⟨i0,i1⟩
 by_cases hi:i<8
 ·have hr:=hg.row _ (eH (l:=g.next) i0 (by omega))
  have G2:=hg.turns i i0 hi
  simp[hi,hr.1,hn]
  (with_reducible repeat' first|refine Xk ?_<;>try simp[hr.1,hn]|refine Xs ?_ ?_<;>intro h<;>(try intro h')<;>(try simp[h,hr.1,hn])<;>(try omega)|refine Xg ?_|omega)
  refine Yr (PZ g hg _ hr.2 (by omega)) ?_
  simp
  (with_reducible repeat' first|refine Xk ?_<;>try simp[ht]|refine Xs ?_ ?_<;>intro h<;>(try intro h')<;>(try simp[h,ht])<;>(try omega)|refine Xg ?_|omega)
  refine Yt (f179 (gt g.gE i) 0 7) ?_
  simp[show 0≤gt g.gE i∧gt g.gE i≤7 by omega,ht,G2.2.2]
  (with_reducible repeat' first|refine Xk ?_<;>try simp[ht,G2.2.2]|refine Xs ?_ ?_<;>intro h<;>(try intro h')<;>(try simp[h,ht,G2.2.2])<;>(try omega)|refine Xg ?_|omega)
  refine LJ.e (i+1) ?_
  exact⟨by omega,by omega,by omega⟩
 ·simp[hi]
theorem f138(n:Int):Wf T 138 [.i n] [] (Is (.b (decide (1≤n∧n≤3)))):=by
 refine Yg Ay ?_
 simp[Ay]
 (with_reducible repeat' first|refine Xk ?_<;>try simp|refine Xs ?_ ?_<;>intro h<;>(try intro h')<;>(try simp[h])<;>(try omega)|refine Xg ?_|omega)
 all_goals simp[*]
def uN(n:Int):Int:=if n=1∨n=2∨n=7 then 1 else if n=8 then 2 else if n=9∨n=10 then 3 else 0
theorem f182(n:Int)(hn:1≤n∧n≤10):∃ nm,Wf T 182 [.i n] [] (Is (.tup [.agg [.val (.string nm),.i (uN n)],.b true])):=by
 rcases(show n=1∨n=2∨n=3∨n=4∨n=5∨n=6∨n=7∨n=8∨n=9∨n=10 by omega)with rfl|rfl|rfl|rfl|rfl|rfl|rfl|rfl|rfl|rfl
 ·exact⟨⟨#[103,111]⟩,mS (k:=40) (by kernel_rfl)⟩
 ·exact⟨⟨#[115,108,105,100,101]⟩,mS (k:=40) (by kernel_rfl)⟩
 ·exact⟨⟨#[101,109,112,116,121]⟩,mS (k:=40) (by kernel_rfl)⟩
 ·exact⟨⟨#[101,110,101,109,121]⟩,mS (k:=40) (by kernel_rfl)⟩
 ·exact⟨⟨#[102,114,105,101,110,100]⟩,mS (k:=40) (by kernel_rfl)⟩
 ·exact⟨⟨#[116,97,107,101]⟩,mS (k:=40) (by kernel_rfl)⟩
 ·exact⟨⟨#[112,117,115,104]⟩,mS (k:=40) (by kernel_rfl)⟩
 ·exact⟨⟨#[98,101,99,111,109,101]⟩,mS (k:=40) (by kernel_rfl)⟩
 ·exact⟨⟨#[110,101,101,100]⟩,mS (k:=40) (by kernel_rfl)⟩
 ·exact⟨⟨#[108,111,115,101]⟩,mS (k:=40) (by kernel_rfl)⟩
theorem f181(kinds eR:Int)(x:eI)(hx:nB 8 kinds eR x):Wf T 181 [.agg [.i x.1,.i x.2],.eG [.i 1,.i 8,.i kinds,.i eR]] [] (Is (.b false)):=by
 have h1:1≤x.1∧x.1≤10:=by unfold nB at hx;omega
 obtain⟨nm,hf⟩:=f182 x.1 h1
 have hk:(uN x.1=1∧0≤x.2∧x.2<8)∨(uN x.1=0∧0≤x.2∧x.2<1)∨(uN x.1=2∧0≤x.2∧x.2<kinds)∨(uN x.1=3∧0≤x.2∧x.2<eR):=by
  unfold nB at hx;unfold uN
  (repeat' split)<;>omega
 generalize uN x.1=k at hf hk
 rcases hk with⟨rfl,h⟩|⟨rfl,h⟩|⟨rfl,h⟩|⟨rfl,h⟩
 all_goals
  refine Yg AW ?_
  simp[AW]
  refine Yc (hf) ?_
  simp
  (with_reducible repeat' first|refine Xk ?_<;>try simp|refine Xs ?_ ?_<;>intro h<;>(try intro h')<;>(try simp[h])<;>(try omega)|refine Xg ?_|omega)
theorem f225(kinds eR:Int)(l:List eI)(hl:∀ x∈l,nB 8 kinds eR x)(h9:l.length≤8):Wf T 225 [ft l,.fn (.func 181) [] [.eG [.i 1,.i 8,.i kinds,.i eR]]] [] (Is (.i (-1))):=by
 refine Yg Bg ?_
 simp[Bg]
 refine eF.e (0:Int) (fun y=>[(0,ft l),(1,.fn (.func 181) [] [.eG [.i 1,.i 8,.i kinds,.i eR]]),(7,.i l.length),(8,.i y)]) (fun y=>[]) (fun y=>0≤y∧y≤l.length) (fun y=>(l.length-y).toNat) ?_ ?_
 ·simp
 rintro i ⟨i0,i1⟩
 by_cases hi:i<l.length
 ·simp[hi]
  (with_reducible repeat' first|refine Xk ?_<;>try simp|refine Xs ?_ ?_<;>intro h<;>(try intro h')<;>(try simp[h])<;>(try omega)|refine Xg ?_|omega)
  refine Yc (f181 kinds eR (gt l i) (hl _ (eH i0 hi))) ?_
  simp
  (with_reducible repeat' first|refine Xk ?_<;>try simp|refine Xs ?_ ?_<;>intro h<;>(try intro h')<;>(try simp[h])<;>(try omega)|refine Xg ?_|omega)
  refine LJ.e (i+1) ?_
  exact⟨by omega,by omega,by omega⟩
 ·simp[hi]
theorem f183(kinds eR:Int)(l:List eI)(hl:∀ x∈l,nB 8 kinds eR x)(h9:l.length≤8):Wf T 183 [ft l,.fn (.func 181) [] [.eG [.i 1,.i 8,.i kinds,.i eR]]] [] (Is (.b false)):=by
 refine Yg AX ?_
 simp[AX]
 refine Yc (f225 kinds eR l hl h9) ?_
 simp
theorem f184(l:List eI)(h9:l.length≤8)(n:Int):Wf T 184 [ft l,.i n] [] (Is (.i (kW l n))):=by
 refine Yg AY ?_
 simp[AY]
 refine eF.e ((0,0):Int×Int) (fun y=>[(1,.i n),(5,.i y.2),(8,ft l),(9,.i l.length),(10,.i y.1)]) (fun y=>[]) (fun y=>0≤y.1∧y.1≤l.length∧y.2=kW (l.take y.1.toNat) n∧0≤y.2∧y.2≤y.1) (fun y=>(l.length-y.1).toNat) ?_ ?_
 ·simp[kW]
 rintro⟨i,c⟩ ⟨i0,i1,i2,i3,i4⟩
 dsimp only at i0 i1 i2 i3 i4 ⊢
 by_cases hi:i<l.length
 ·simp[hi]
  (with_reducible repeat' first|refine Xk ?_<;>try simp|refine Xs ?_ ?_<;>intro h<;>(try intro h')<;>(try simp[h])<;>(try omega)|refine Xg ?_|omega)
  ·refine LJ.e (i+1,c+1) ?_
   refine⟨by dsimp only;omega,by dsimp only;omega,by dsimp only;omega,?_,by dsimp only;omega,by dsimp only;omega⟩
   dsimp only
   rw[gj i0 hi,xI,← i2,if_pos (by assumption)]
  ·refine LJ.e (i+1,c) ?_
   refine⟨by dsimp only;omega,by dsimp only;omega,by dsimp only;omega,?_,by dsimp only;omega,by dsimp only;omega⟩
   dsimp only
   rw[gj i0 hi,xI,← i2,if_neg (by assumption)];omega
 ·simp[hi]
  rw[i2,iH (by omega)]
theorem f140(g:ey)(hg:eW g)(l:List eI)(hl:qT g l):Wf T 140 [ft l,.i 8,.i g.kinds.length,.i g.eR] [] (Is (.b true)):=by
 have h1:=hl.len
 have h2:=hl.pc
 have h3:=hl.push
 have h4:=hl.Co
 refine Yg AB ?_
 simp[AB]
 (with_reducible repeat' first|refine Xk ?_<;>try simp|refine Xs ?_ ?_<;>intro h<;>(try intro h')<;>(try simp[h])<;>(try omega)|refine Xg ?_|omega)
 refine Yr (f183 g.kinds.length g.eR l (fun x hx=>(hl.steps x hx).ok) h1.2) ?_
 simp
 (with_reducible repeat' first|refine Xk ?_<;>try simp|refine Xs ?_ ?_<;>intro h<;>(try intro h')<;>(try simp[h])<;>(try omega)|refine Xg ?_|omega)
 refine Yc (f184 l h1.2 6) ?_
 simp
 (with_reducible repeat' first|refine Xk ?_<;>try simp[h2,h3,h4]|refine Xs ?_ ?_<;>intro h<;>(try intro h')<;>(try simp[h,h2,h3,h4])<;>(try omega)|refine Xg ?_|omega)
 refine Yc (f184 l h1.2 7) ?_
 simp
 (with_reducible repeat' first|refine Xk ?_<;>try simp[h2,h3,h4]|refine Xs ?_ ?_<;>intro h<;>(try intro h')<;>(try simp[h,h2,h3,h4])<;>(try omega)|refine Xg ?_|omega)
 refine Yc (f184 l h1.2 8) ?_
 simp
 (with_reducible repeat' first|refine Xk ?_<;>try simp[h2,h3,h4]|refine Xs ?_ ?_<;>intro h<;>(try intro h')<;>(try simp[h,h2,h3,h4])<;>(try omega)|refine Xg ?_|omega)
theorem f139(g:ey)(hg:eW g)(l:List eI)(hl:qT g l):Wf T 139 [ft l,.eG g.cells] [] (Is (.b false)):=by
 have h1:=hg.gH.next
 refine Yg Az ?_
 simp[Az,h1]
 refine Yc (f140 g hg l hl) ?_
 simp
theorem Zu:Wf T 141 [.val (.string ⟨#[97]⟩)] [] (Is (.b true)):=mS (k:=100) (by kernel_rfl)
theorem Zv:Wf T 141 [.val (.string ⟨#[98,101,101]⟩)] [] (Is (.b true)):=mS (k:=100) (by kernel_rfl)
theorem f141(n:Int):Wf T 141 [.val (.string (kindName n))] [] (Is (.b true)):=by
 unfold kindName
 split
 ·exact Zu
 ·exact Zv
theorem f188(k:Kind)(s:ByteArray):Wf T 188 [.agg k.cells,.eG [.val (.string s)]] [] (Is (.b (decide (k.name=s)))):=by
 refine Yg A0 ?_
 simp[A0]
theorem f187(g:ey)(hg:eW g)(n:Int)(hn:0≤n∧n<g.kinds.length):Wf T 187 [.sl 3 (g.kinds.map Kind.cells),.fn (.func 188) [] [.eG [.val (.string (kindName n))]]] [] (Is (.i n)):=by
 have hk:=hg.kinds
 refine Yg AZ ?_
 simp[AZ]
 refine eF.e (0:Int) (fun y=>[(0,.sl 3 (g.kinds.map Kind.cells)),(1,.fn (.func 188) [] [.eG [.val (.string (kindName n))]]),(7,.i g.kinds.length),(8,.i y)]) (fun y=>[]) (fun y=>0≤y∧y≤n) (fun y=>(g.kinds.length-y).toNat) ?_ ?_
 ·simp;omega
 rintro i ⟨i0,i1⟩
 have hi:i<g.kinds.length:=by omega
 simp[hi]
 (with_reducible repeat' first|refine Xk ?_<;>try simp|refine Xs ?_ ?_<;>intro h<;>(try intro h')<;>(try simp[h])<;>(try omega)|refine Xg ?_|omega)
 refine Yc (f188 (gt g.kinds i) (kindName n)) ?_
 simp
 have oX:=hg.names i i0 hi
 by_cases ff:i=n
 ·subst ff
  simp[oX]
 ·have hd:¬ kindName i=kindName n:=by
   unfold kindName
   have:i=0:=by omega
   rw[if_pos this,if_neg (by omega)]
   decide
  simp[oX,hd]
  (with_reducible repeat' first|refine Xk ?_<;>try simp|refine Xs ?_ ?_<;>intro h<;>(try intro h')<;>(try simp[h])<;>(try omega)|refine Xg ?_|omega)
  refine LJ.e (i+1) ?_
  exact⟨by omega,by omega,by omega⟩
theorem f142(g:ey)(hg:eW g)(n:Int)(hn:0≤n∧n<g.kinds.length):Wf T 142 [dG g,.val (.string (kindName n))] [] (Is (.i n)):=by
 refine Yg AD ?_
 simp[AD]
 refine Yr (f187 g hg n hn) ?_
 simp
theorem f189(g:ey)(hg:eW g)(l:List (List eI))(hl:∀ x∈l,qT g x)(h9:l.length≤4):Wf T 189 [dN 1 fP l,.fn (.func 139) [] [.eG g.cells]] [] (Is (.i (-1))):=by
 refine Yg A1 ?_
 simp[A1]
 refine eF.e (0:Int) (fun y=>[(0,dN 1 fP l),(1,.fn (.func 139) [] [.eG g.cells]),(7,.i l.length),(8,.i y)]) (fun y=>[]) (fun y=>0≤y∧y≤l.length) (fun y=>(l.length-y).toNat) ?_ ?_
 ·simp
 rintro i ⟨i0,i1⟩
 by_cases hi:i<l.length
 ·simp[hi]
  (with_reducible repeat' first|refine Xk ?_<;>try simp|refine Xs ?_ ?_<;>intro h<;>(try intro h')<;>(try simp[h])<;>(try omega)|refine Xg ?_|omega)
  refine Yc (f139 g hg (gt l i) (hl _ (eH i0 hi))) ?_
  simp
  (with_reducible repeat' first|refine Xk ?_<;>try simp|refine Xs ?_ ?_<;>intro h<;>(try intro h')<;>(try simp[h])<;>(try omega)|refine Xg ?_|omega)
  refine LJ.e (i+1) ?_
  exact⟨by omega,by omega,by omega⟩
 ·simp[hi]
theorem f143(g:ey)(hg:eW g)(l:List (List eI))(hl:∀ x∈l,qT g x)(h9:l.length≤4):Wf T 143 [dN 1 fP l,.fn (.func 139) [] [.eG g.cells]] [] (Is (.b false)):=by
 refine Yg AE ?_
 simp[AE]
 refine Yc (f189 g hg l hl h9) ?_
 simp
theorem f146(g:ey)(hg:eW g)(c:Clause)(hc:u6 g c):Wf T 146 [dG g,.agg c.cells] [] (Is (.b true)):=by
 have h1:=hc.ok
 have h2:=hc.out
 refine Yg AH ?_
 simp[AH]
 (with_reducible repeat' first|refine Xk ?_<;>try simp|refine Xs ?_ ?_<;>intro h<;>(try intro h')<;>(try simp[h])<;>(try omega)|refine Xg ?_|omega)
 all_goals
  refine eU.r rfl rfl (f138 c.out) (by simp) (by simp[flat]) (by simp) ?_
  simp[h2.1,h2.2]
  (with_reducible repeat' first|refine Xk ?_<;>try simp|refine Xs ?_ ?_<;>intro h<;>(try intro h')<;>(try simp[h])<;>(try omega)|refine Xg ?_|omega)
theorem f145(g:ey)(hg:eW g)(c:Clause)(hc:u6 g c):Wf T 145 [.agg c.cells,.eG g.cells] [] (Is (.b false)):=by
 refine Yg AG ?_
 simp[AG]
 refine Yc (f146 g hg c hc) ?_
 simp
theorem f190(g:ey)(hg:eW g)(l:List Clause)(hl:∀ x∈l,u6 g x)(h9:l.length≤4):Wf T 190 [dN 4 Clause.cells l,.fn (.func 145) [] [.eG g.cells]] [] (Is (.i (-1))):=by
 refine Yg A2 ?_
 simp[A2]
 refine eF.e (0:Int) (fun y=>[(0,dN 4 Clause.cells l),(1,.fn (.func 145) [] [.eG g.cells]),(7,.i l.length),(8,.i y)]) (fun y=>[]) (fun y=>0≤y∧y≤l.length) (fun y=>(l.length-y).toNat) ?_ ?_
 ·simp
 rintro i ⟨i0,i1⟩
 by_cases hi:i<l.length
 ·simp[hi]
  (with_reducible repeat' first|refine Xk ?_<;>try simp|refine Xs ?_ ?_<;>intro h<;>(try intro h')<;>(try simp[h])<;>(try omega)|refine Xg ?_|omega)
  refine Yc (f145 g hg (gt l i) (hl _ (eH i0 hi))) ?_
  simp
  (with_reducible repeat' first|refine Xk ?_<;>try simp|refine Xs ?_ ?_<;>intro h<;>(try intro h')<;>(try simp[h])<;>(try omega)|refine Xg ?_|omega)
  refine LJ.e (i+1) ?_
  exact⟨by omega,by omega,by omega⟩
 ·simp[hi]
theorem f144(g:ey)(hg:eW g)(l:List Clause)(hl:∀ x∈l,u6 g x)(h9:l.length≤4):Wf T 144 [dN 4 Clause.cells l,.fn (.func 145) [] [.eG g.cells]] [] (Is (.b false)):=by
 refine Yg AF ?_
 simp[AF]
 refine Yc (f190 g hg l hl h9) ?_
 simp
theorem f98(g:ey)(hg:eW g):Wf T 98 [dG g] [] (Is (.b true)):=by
 have hk:=hg.kinds
 have hr:=hg.eR
 have hc:=hg.clauses
 have hb:=hg.blocked
 have he:=hg.qf
 refine Yg Cg ?_
 simp[Cg]
 refine Yc (f137 g hg.gH) ?_
 simp
 (with_reducible repeat' first|refine Xk ?_<;>try simp|refine Xs ?_ ?_<;>intro h<;>(try intro h')<;>(try simp[h])<;>(try omega)|refine Xg ?_|omega)
 refine eU.r rfl rfl (f138 g.blocked) (by simp) (by simp[flat]) (by simp) ?_
 simp[hb]
 (with_reducible repeat' first|refine Xk ?_<;>try simp|refine Xs ?_ ?_<;>intro h<;>(try intro h')<;>(try simp[h])<;>(try omega)|refine Xg ?_|omega)
 refine eU.r rfl rfl (f138 g.qf) (by simp) (by simp[flat]) (by simp) ?_
 simp[he]
 (with_reducible repeat' first|refine Xk ?_<;>try simp|refine Xs ?_ ?_<;>intro h<;>(try intro h')<;>(try simp[h])<;>(try omega)|refine Xg ?_|omega)
 refine eF.e (0:Int) (fun y=>[(1,.ptr 0 0 0),(51,.sl 3 (g.kinds.map Kind.cells)),(52,.i g.kinds.length),(53,.i y)]) (fun y=>[.row 41 0 g.cells]) (fun y=>0≤y∧y≤g.kinds.length) (fun y=>(g.kinds.length-y).toNat) ?_ ?_
 ·simp
 rintro i ⟨i0,i1⟩
 by_cases hi:i<g.kinds.length
 ·have oX:=hg.names i i0 hi
  have hp:=hg.fZ _ (eH i0 hi)
  simp[hi,oX]
  (with_reducible repeat' first|refine Xk ?_<;>try simp[oX]|refine Xs ?_ ?_<;>intro h<;>(try intro h')<;>(try simp[h,oX])<;>(try omega)|refine Xg ?_|omega)
  refine eU.r rfl rfl (f141 i) (by simp) (by simp[flat]) (by simp) ?_
  simp[oX]
  (with_reducible repeat' first|refine Xk ?_<;>try simp[oX]|refine Xs ?_ ?_<;>intro h<;>(try intro h')<;>(try simp[h,oX])<;>(try omega)|refine Xg ?_|omega)
  refine eU.r rfl rfl (f142 g hg i ⟨i0,hi⟩) (by simp) (by simp[flat]) (by simp) ?_
  simp[oX]
  (with_reducible repeat' first|refine Xk ?_<;>try simp[oX]|refine Xs ?_ ?_<;>intro h<;>(try intro h')<;>(try simp[h,oX])<;>(try omega)|refine Xg ?_|omega)
  refine Yr (f143 g hg _ hp.2 hp.1) ?_
  simp
  (with_reducible repeat' first|refine Xk ?_<;>try simp|refine Xs ?_ ?_<;>intro h<;>(try intro h')<;>(try simp[h])<;>(try omega)|refine Xg ?_|omega)
  refine LJ.e (i+1) ?_
  exact⟨by omega,by omega,by omega⟩
 ·simp[hi]
  (with_reducible repeat' first|refine Xk ?_<;>try simp|refine Xs ?_ ?_<;>intro h<;>(try intro h')<;>(try simp[h])<;>(try omega)|refine Xg ?_|omega)
  refine Yr (f144 g hg _ hg.clause (by omega)) ?_
  simp
