/- 25 -/
import Derived.Test.YtnaefnajkaohgaaGreatDoorH17
set_option linter.all false
namespace Go.Proofs.YtnaefnajkaohgaaGreatDoor
open Go Go.AL Classical
set_option maxRecDepth 100000
set_option maxHeartbeats 4000000
def f179(n a b:Int):Wf T 179 [.i n,.i a,.i b] [] (Is (.b (decide (a≤n∧n≤b)))):=by
 refine Yg EE ?_
 simp[EE]
 (with_reducible repeat' first|refine Xk ?_<;>try simp|refine Xs ?_ ?_<;>intro h<;>(try intro h')<;>(try simp[h])<;>try omega|refine Xg ?_|omega)
 all_goals simp[*]
def f180(g:eH)(hg:mX g)(n:Int)(hn : -1≤n∧n<g.size):Wf T 180 [.i n,.eW [.fn (.func 179) [] []],.eW [.i g.size,.sl 1 (g.next.map fI),dI g.gU]] [] (Is (.b false)):=by
 have hs:=hg.size
 refine Yg EF ?_
 simp[EF]
 (with_reducible repeat' first|refine Xk ?_<;>try simp|refine Xs ?_ ?_<;>intro h<;>(try intro h')<;>(try simp[h])<;>try omega|refine Xg ?_|omega)
 refine Yc (f179 n (-1) (g.size-1)) ?_
 simp[show -1≤n∧n≤g.size-1 by omega]
def Vw(g:eH)(hg:mX g)(l:List Int)(hl:∀ n∈l,-1≤n∧n<g.size)(h9:l.length≤9):Wf T 178 [dI l,.fn (.func 180) [] [.eW [.fn (.func 179) [] []],.eW [.i g.size,.sl 1 (g.next.map fI),dI g.gU]]] [] (Is (.i (-1))):=by
 refine Yg yL ?_
 simp[yL]
 refine eN.e (0:Int) (fun y=>[(0,dI l),(1,.fn (.func 180) [] [.eW [.fn (.func 179) [] []],.eW [.i g.size,.sl 1 (g.next.map fI),dI g.gU]]),(7,.i l.length),(8,.i y)]) (fun y=>[]) (fun y=>0≤y∧y≤l.length) (fun y=>(l.length-y).toNat) ?_ ?_
 ·simp
 rintro i ⟨i0,i1⟩
 by_cases hi:i<l.length
 ·simp[hi]
  (with_reducible repeat' first|refine Xk ?_<;>try simp|refine Xs ?_ ?_<;>intro h<;>(try intro h')<;>(try simp[h])<;>try omega|refine Xg ?_|omega)
  refine Yc (f180 g hg (gt l i) (hl _ (eQ i0 hi))) ?_
  simp
  (with_reducible repeat' first|refine Xk ?_<;>try simp|refine Xs ?_ ?_<;>intro h<;>(try intro h')<;>(try simp[h])<;>try omega|refine Xg ?_|omega)
  refine LJ.e (i+1) ?_
  exact l4
 ·simp[hi]
def Vs(g:eH)(hg:mX g)(l:List Int)(hl:∀ n∈l,-1≤n∧n<g.size)(h9:l.length≤9):Wf T 135 [dI l,.fn (.func 180) [] [.eW [.fn (.func 179) [] []],.eW [.i g.size,.sl 1 (g.next.map fI),dI g.gU]]] [] (Is (.b false)):=by
 refine Yg yJ ?_
 simp[yJ]
 refine Yc (Vw g hg l hl h9) ?_
 simp
def f137(g:eH)(hg:mX g):Wf T 137 [g.iw] [] (Is (.b true)):=by
 have hs:=hg.size
 have hn:=hg.next
 have ht:=hg.gU
 refine Yg Ea ?_
 simp[Ea,hn]
 refine Yc (f179 g.size 1 64) ?_
 simp[show 1≤g.size∧g.size≤64 by omega]
 refine Yc (f179 8 1 8) ?_
 simp
 (with_reducible repeat' first|refine Xk ?_<;>try simp[hn,ht]|refine Xs ?_ ?_<;>intro h<;>(try intro h')<;>(try simp[h,hn,ht])<;>try omega|refine Xg ?_|omega)
 refine eN.e (0:Int) (fun y=>[(1,.ptr 0 0 0),(3,.i 8),(4,.ptr 1 0 0),(29,.sl 1 (g.next.map fI)),(30,.i 8),(31,.i y)]) (fun y=>[.row 37 0 [.i g.size,.sl 1 (g.next.map fI),dI g.gU],.row 174 0 [.fn (.func 179) [] []]]) (fun y=>0≤y∧y≤8) (fun y=>(8-y).toNat) ?_ ?_
 ·simp
 rintro i ⟨i0,i1⟩
 by_cases hi:i<8
 ·have hr:=hg.row _ (eQ (l:=g.next) i0 (by omega))
  have Ck:=hg.turns i i0 hi
  simp[hi,hr.1,hn]
  (with_reducible repeat' first|refine Xk ?_<;>try simp[hr.1,hn]|refine Xs ?_ ?_<;>intro h<;>(try intro h')<;>(try simp[h,hr.1,hn])<;>try omega|refine Xg ?_|omega)
  refine Yr (Vs g hg _ hr.2 (by omega)) ?_
  simp
  (with_reducible repeat' first|refine Xk ?_<;>try simp[ht]|refine Xs ?_ ?_<;>intro h<;>(try intro h')<;>(try simp[h,ht])<;>try omega|refine Xg ?_|omega)
  refine Yt (f179 (gt g.gU i) 0 7) ?_
  simp[show 0≤gt g.gU i∧gt g.gU i≤7 by omega,ht,Ck.2.2]
  (with_reducible repeat' first|refine Xk ?_<;>try simp[ht,Ck.2.2]|refine Xs ?_ ?_<;>intro h<;>(try intro h')<;>(try simp[h,ht,Ck.2.2])<;>try omega|refine Xg ?_|omega)
  refine LJ.e (i+1) ?_
  exact l4
 ·simp[hi]
def f138(n:Int):Wf T 138 [.i n] [] (Is (.b (decide (1≤n∧n≤3)))):=by
 refine Yg Eb ?_
 simp[Eb]
 (with_reducible repeat' first|refine Xk ?_<;>try simp|refine Xs ?_ ?_<;>intro h<;>(try intro h')<;>(try simp[h])<;>try omega|refine Xg ?_|omega)
 all_goals simp[*]
def yf(n:Int):Int:=if n=1∨n=2∨n=7 then 1 else if n=8 then 2 else if n=9∨n=10 then 3 else 0
def f182(n:Int)(hn:1≤n∧n≤10):∃ nm,Wf T 182 [.i n] [] (Is (.tup [.agg [.val (.string nm),.i (yf n)],.b true])):=by
 rcases(show n=1∨n=2∨n=3∨n=4∨n=5∨n=6∨n=7∨n=8∨n=9∨n=10 by omega)with rfl|rfl|rfl|rfl|rfl|rfl|rfl|rfl|rfl|rfl
 ·exact⟨⟨#[103,111]⟩,pM (k:=40) (by kernel_rfl)⟩
 ·exact⟨⟨#[115,108,105,100,101]⟩,pM (k:=40) (by kernel_rfl)⟩
 ·exact⟨⟨#[101,109,112,116,121]⟩,pM (k:=40) (by kernel_rfl)⟩
 ·exact⟨⟨#[101,110,101,109,121]⟩,pM (k:=40) (by kernel_rfl)⟩
 ·exact⟨⟨#[102,114,105,101,110,100]⟩,pM (k:=40) (by kernel_rfl)⟩
 ·exact⟨⟨#[116,97,107,101]⟩,pM (k:=40) (by kernel_rfl)⟩
 ·exact⟨⟨#[112,117,115,104]⟩,pM (k:=40) (by kernel_rfl)⟩
 ·exact⟨⟨#[98,101,99,111,109,101]⟩,pM (k:=40) (by kernel_rfl)⟩
 ·exact⟨⟨#[110,101,101,100]⟩,pM (k:=40) (by kernel_rfl)⟩
 ·exact⟨⟨#[108,111,115,101]⟩,pM (k:=40) (by kernel_rfl)⟩
def f181(kinds ff:Int)(x:eO)(hx:qc 8 kinds ff x):Wf T 181 [.agg [.i x.1,.i x.2],.eW [.i 1,.i 8,.i kinds,.i ff]] [] (Is (.b false)):=by
 have h1:1≤x.1∧x.1≤10:=by unfold qc at hx;omega
 obtain⟨nm,hf⟩:=f182 x.1 h1
 have hk:(yf x.1=1∧0≤x.2∧x.2<8)∨(yf x.1=0∧0≤x.2∧x.2<1)∨(yf x.1=2∧0≤x.2∧x.2<kinds)∨(yf x.1=3∧0≤x.2∧x.2<ff):=by
  unfold qc at hx;unfold yf
  (repeat' split)<;>omega
 generalize yf x.1=k at hf hk
 rcases hk with⟨rfl,h⟩|⟨rfl,h⟩|⟨rfl,h⟩|⟨rfl,h⟩
 all_goals
  refine Yg EG ?_
  simp[EG]
  refine Yc (hf) ?_
  simp
  (with_reducible repeat' first|refine Xk ?_<;>try simp|refine Xs ?_ ?_<;>intro h<;>(try intro h')<;>(try simp[h])<;>try omega|refine Xg ?_|omega)
def f225(kinds ff:Int)(l:List eO)(hl:∀ x∈l,qc 8 kinds ff x)(h9:l.length≤8):Wf T 225 [fh l,.fn (.func 181) [] [.eW [.i 1,.i 8,.i kinds,.i ff]]] [] (Is (.i (-1))):=by
 refine Yg E5 ?_
 simp[E5]
 refine eN.e (0:Int) (fun y=>[(0,fh l),(1,.fn (.func 181) [] [.eW [.i 1,.i 8,.i kinds,.i ff]]),(7,.i l.length),(8,.i y)]) (fun y=>[]) (fun y=>0≤y∧y≤l.length) (fun y=>(l.length-y).toNat) ?_ ?_
 ·simp
 rintro i ⟨i0,i1⟩
 by_cases hi:i<l.length
 ·simp[hi]
  (with_reducible repeat' first|refine Xk ?_<;>try simp|refine Xs ?_ ?_<;>intro h<;>(try intro h')<;>(try simp[h])<;>try omega|refine Xg ?_|omega)
  refine Yc (f181 kinds ff (gt l i) (hl _ (eQ i0 hi))) ?_
  simp
  (with_reducible repeat' first|refine Xk ?_<;>try simp|refine Xs ?_ ?_<;>intro h<;>(try intro h')<;>(try simp[h])<;>try omega|refine Xg ?_|omega)
  refine LJ.e (i+1) ?_
  exact l4
 ·simp[hi]
def f183(kinds ff:Int)(l:List eO)(hl:∀ x∈l,qc 8 kinds ff x)(h9:l.length≤8):Wf T 183 [fh l,.fn (.func 181) [] [.eW [.i 1,.i 8,.i kinds,.i ff]]] [] (Is (.b false)):=by
 refine Yg EH ?_
 simp[EH]
 refine Yc (f225 kinds ff l hl h9) ?_
 simp
def f184(l:List eO)(h9:l.length≤8)(n:Int):Wf T 184 [fh l,.i n] [] (Is (.i (mZ l n))):=by
 refine Yg EI ?_
 simp[EI]
 refine eN.e ((0,0):Int×Int) (fun y=>[(1,.i n),(5,.i y.2),(8,fh l),(9,.i l.length),(10,.i y.1)]) (fun y=>[]) (fun y=>0≤y.1∧y.1≤l.length∧y.2=mZ (l.take y.1.toNat) n∧0≤y.2∧y.2≤y.1) (fun y=>(l.length-y.1).toNat) ?_ ?_
 ·simp[mZ]
 rintro⟨i,c⟩ ⟨i0,i1,i2,i3,i4⟩
 dsimp only at i0 i1 i2 i3 i4 ⊢
 by_cases hi:i<l.length
 ·simp[hi]
  (with_reducible repeat' first|refine Xk ?_<;>try simp|refine Xs ?_ ?_<;>intro h<;>(try intro h')<;>(try simp[h])<;>try omega|refine Xg ?_|omega)
  ·refine LJ.e (i+1,c+1) ?_
   refine⟨by dsimp only;omega,by dsimp only;omega,by dsimp only;omega,?_,by dsimp only;omega,by dsimp only;omega⟩
   dsimp only
   rw[gx i0 hi,Bq,← i2,if_pos (by assumption)]
  ·refine LJ.e (i+1,c) ?_
   refine⟨by dsimp only;omega,by dsimp only;omega,by dsimp only;omega,?_,by dsimp only;omega,by dsimp only;omega⟩
   dsimp only
   rw[gx i0 hi,Bq,← i2,if_neg (by assumption)];omega
 ·simp[hi]
  rw[i2,jh (by omega)]
def f140(g:eH)(hg:fe g)(l:List eO)(hl:ui g l):Wf T 140 [fh l,.i 8,.i g.kinds.length,.i g.ff] [] (Is (.b true)):=by
 have h1:=hl.len
 have h2:=hl.rX
 have h3:=hl.push
 have h4:=hl.Gv
 refine Yg Ee ?_
 simp[Ee]
 (with_reducible repeat' first|refine Xk ?_<;>try simp|refine Xs ?_ ?_<;>intro h<;>(try intro h')<;>(try simp[h])<;>try omega|refine Xg ?_|omega)
 refine Yr (f183 g.kinds.length g.ff l (fun x hx=>(hl.steps x hx).ok) h1.2) ?_
 simp
 (with_reducible repeat' first|refine Xk ?_<;>try simp|refine Xs ?_ ?_<;>intro h<;>(try intro h')<;>(try simp[h])<;>try omega|refine Xg ?_|omega)
 refine Yc (f184 l h1.2 6) ?_
 simp
 (with_reducible repeat' first|refine Xk ?_<;>try simp[h2,h3,h4]|refine Xs ?_ ?_<;>intro h<;>(try intro h')<;>(try simp[h,h2,h3,h4])<;>try omega|refine Xg ?_|omega)
 refine Yc (f184 l h1.2 7) ?_
 simp
 (with_reducible repeat' first|refine Xk ?_<;>try simp[h2,h3,h4]|refine Xs ?_ ?_<;>intro h<;>(try intro h')<;>(try simp[h,h2,h3,h4])<;>try omega|refine Xg ?_|omega)
 refine Yc (f184 l h1.2 8) ?_
 simp
 (with_reducible repeat' first|refine Xk ?_<;>try simp[h2,h3,h4]|refine Xs ?_ ?_<;>intro h<;>(try intro h')<;>(try simp[h,h2,h3,h4])<;>try omega|refine Xg ?_|omega)
def f139(g:eH)(hg:fe g)(l:List eO)(hl:ui g l):Wf T 139 [fh l,.eW g.cells] [] (Is (.b false)):=by
 have h1:=hg.iw.next
 refine Yg Ec ?_
 simp[Ec,h1]
 refine Yc (f140 g hg l hl) ?_
 simp
def afS:Wf T 141 [.val (.string ⟨#[97]⟩)] [] (Is (.b true)):=pM (k:=100) (by kernel_rfl)
def afT:Wf T 141 [.val (.string ⟨#[98,101,101]⟩)] [] (Is (.b true)):=pM (k:=100) (by kernel_rfl)
def f141(n:Int):Wf T 141 [.val (.string (kindName n))] [] (Is (.b true)):=by
 unfold kindName
 split
 ·exact afS
 ·exact afT
def f188(k:Kind)(s:ByteArray):Wf T 188 [.agg k.cells,.eW [.val (.string s)]] [] (Is (.b (decide (k.name=s)))):=by
 refine Yg EK ?_
 simp[EK]
def f187(g:eH)(hg:fe g)(n:Int)(hn:0≤n∧n<g.kinds.length):Wf T 187 [.sl 3 (g.kinds.map Kind.cells),.fn (.func 188) [] [.eW [.val (.string (kindName n))]]] [] (Is (.i n)):=by
 have hk:=hg.kinds
 refine Yg EJ ?_
 simp[EJ]
 refine eN.e (0:Int) (fun y=>[(0,.sl 3 (g.kinds.map Kind.cells)),(1,.fn (.func 188) [] [.eW [.val (.string (kindName n))]]),(7,.i g.kinds.length),(8,.i y)]) (fun y=>[]) (fun y=>0≤y∧y≤n) (fun y=>(g.kinds.length-y).toNat) ?_ ?_
 ·simp;omega
 rintro i ⟨i0,i1⟩
 have hi:i<g.kinds.length:=by omega
 simp[hi]
 (with_reducible repeat' first|refine Xk ?_<;>try simp|refine Xs ?_ ?_<;>intro h<;>(try intro h')<;>(try simp[h])<;>try omega|refine Xg ?_|omega)
 refine Yc (f188 (gt g.kinds i) (kindName n)) ?_
 simp
 have rK:=hg.names i i0 hi
 by_cases ft:i=n
 ·subst ft
  simp[rK]
 ·have hd:¬ kindName i=kindName n:=by
   unfold kindName
   have:i=0:=by omega
   rw[if_pos this,if_neg (by omega)]
   decide
  simp[rK,hd]
  (with_reducible repeat' first|refine Xk ?_<;>try simp|refine Xs ?_ ?_<;>intro h<;>(try intro h')<;>(try simp[h])<;>try omega|refine Xg ?_|omega)
  refine LJ.e (i+1) ?_
  exact l4
def f142(g:eH)(hg:fe g)(n:Int)(hn:0≤n∧n<g.kinds.length):Wf T 142 [dG g,.val (.string (kindName n))] [] (Is (.i n)):=by
 refine Yg Eg ?_
 simp[Eg]
 refine Yr (f187 g hg n hn) ?_
 simp
def f189(g:eH)(hg:fe g)(l:List (List eO))(hl:∀ x∈l,ui g x)(h9:l.length≤4):Wf T 189 [dN 1 fP l,.fn (.func 139) [] [.eW g.cells]] [] (Is (.i (-1))):=by
 refine Yg EL ?_
 simp[EL]
 refine eN.e (0:Int) (fun y=>[(0,dN 1 fP l),(1,.fn (.func 139) [] [.eW g.cells]),(7,.i l.length),(8,.i y)]) (fun y=>[]) (fun y=>0≤y∧y≤l.length) (fun y=>(l.length-y).toNat) ?_ ?_
 ·simp
 rintro i ⟨i0,i1⟩
 by_cases hi:i<l.length
 ·simp[hi]
  (with_reducible repeat' first|refine Xk ?_<;>try simp|refine Xs ?_ ?_<;>intro h<;>(try intro h')<;>(try simp[h])<;>try omega|refine Xg ?_|omega)
  refine Yc (f139 g hg (gt l i) (hl _ (eQ i0 hi))) ?_
  simp
  (with_reducible repeat' first|refine Xk ?_<;>try simp|refine Xs ?_ ?_<;>intro h<;>(try intro h')<;>(try simp[h])<;>try omega|refine Xg ?_|omega)
  refine LJ.e (i+1) ?_
  exact l4
 ·simp[hi]
def f143(g:eH)(hg:fe g)(l:List (List eO))(hl:∀ x∈l,ui g x)(h9:l.length≤4):Wf T 143 [dN 1 fP l,.fn (.func 139) [] [.eW g.cells]] [] (Is (.b false)):=by
 refine Yg Eh ?_
 simp[Eh]
 refine Yc (f189 g hg l hl h9) ?_
 simp
def f146(g:eH)(hg:fe g)(c:Clause)(hc:yG g c):Wf T 146 [dG g,.agg c.cells] [] (Is (.b true)):=by
 have h1:=hc.ok
 have h2:=hc.out
 refine Yg Ek ?_
 simp[Ek]
 (with_reducible repeat' first|refine Xk ?_<;>try simp|refine Xs ?_ ?_<;>intro h<;>(try intro h')<;>(try simp[h])<;>try omega|refine Xg ?_|omega)
 all_goals
  refine fg.r rfl rfl (f138 c.out) (by simp) (by simp[flat]) (by simp) ?_
  simp[h2.1,h2.2]
  (with_reducible repeat' first|refine Xk ?_<;>try simp|refine Xs ?_ ?_<;>intro h<;>(try intro h')<;>(try simp[h])<;>try omega|refine Xg ?_|omega)
def f145(g:eH)(hg:fe g)(c:Clause)(hc:yG g c):Wf T 145 [.agg c.cells,.eW g.cells] [] (Is (.b false)):=by
 refine Yg Ej ?_
 simp[Ej]
 refine Yc (f146 g hg c hc) ?_
 simp
def f190(g:eH)(hg:fe g)(l:List Clause)(hl:∀ x∈l,yG g x)(h9:l.length≤4):Wf T 190 [dN 4 Clause.cells l,.fn (.func 145) [] [.eW g.cells]] [] (Is (.i (-1))):=by
 refine Yg EM ?_
 simp[EM]
 refine eN.e (0:Int) (fun y=>[(0,dN 4 Clause.cells l),(1,.fn (.func 145) [] [.eW g.cells]),(7,.i l.length),(8,.i y)]) (fun y=>[]) (fun y=>0≤y∧y≤l.length) (fun y=>(l.length-y).toNat) ?_ ?_
 ·simp
 rintro i ⟨i0,i1⟩
 by_cases hi:i<l.length
 ·simp[hi]
  (with_reducible repeat' first|refine Xk ?_<;>try simp|refine Xs ?_ ?_<;>intro h<;>(try intro h')<;>(try simp[h])<;>try omega|refine Xg ?_|omega)
  refine Yc (f145 g hg (gt l i) (hl _ (eQ i0 hi))) ?_
  simp
  (with_reducible repeat' first|refine Xk ?_<;>try simp|refine Xs ?_ ?_<;>intro h<;>(try intro h')<;>(try simp[h])<;>try omega|refine Xg ?_|omega)
  refine LJ.e (i+1) ?_
  exact l4
 ·simp[hi]
def f144(g:eH)(hg:fe g)(l:List Clause)(hl:∀ x∈l,yG g x)(h9:l.length≤4):Wf T 144 [dN 4 Clause.cells l,.fn (.func 145) [] [.eW g.cells]] [] (Is (.b false)):=by
 refine Yg Ei ?_
 simp[Ei]
 refine Yc (f190 g hg l hl h9) ?_
 simp
def f98(g:eH)(hg:fe g):Wf T 98 [dG g] [] (Is (.b true)):=by
 have hk:=hg.kinds
 have hr:=hg.ff
 have hc:=hg.clauses
 have hb:=hg.blocked
 have he:=hg.n9
 refine Yg Gn ?_
 simp[Gn]
 refine Yc (f137 g hg.iw) ?_
 simp
 (with_reducible repeat' first|refine Xk ?_<;>try simp|refine Xs ?_ ?_<;>intro h<;>(try intro h')<;>(try simp[h])<;>try omega|refine Xg ?_|omega)
 refine fg.r rfl rfl (f138 g.blocked) (by simp) (by simp[flat]) (by simp) ?_
 simp[hb]
 (with_reducible repeat' first|refine Xk ?_<;>try simp|refine Xs ?_ ?_<;>intro h<;>(try intro h')<;>(try simp[h])<;>try omega|refine Xg ?_|omega)
 refine fg.r rfl rfl (f138 g.n9) (by simp) (by simp[flat]) (by simp) ?_
 simp[he]
 (with_reducible repeat' first|refine Xk ?_<;>try simp|refine Xs ?_ ?_<;>intro h<;>(try intro h')<;>(try simp[h])<;>try omega|refine Xg ?_|omega)
 refine eN.e (0:Int) (fun y=>[(1,.ptr 0 0 0),(51,.sl 3 (g.kinds.map Kind.cells)),(52,.i g.kinds.length),(53,.i y)]) (fun y=>[.row 41 0 g.cells]) (fun y=>0≤y∧y≤g.kinds.length) (fun y=>(g.kinds.length-y).toNat) ?_ ?_
 ·simp
 rintro i ⟨i0,i1⟩
 by_cases hi:i<g.kinds.length
 ·have rK:=hg.names i i0 hi
  have hp:=hg.gT _ (eQ i0 hi)
  simp[hi,rK]
  (with_reducible repeat' first|refine Xk ?_<;>try simp[rK]|refine Xs ?_ ?_<;>intro h<;>(try intro h')<;>(try simp[h,rK])<;>try omega|refine Xg ?_|omega)
  refine fg.r rfl rfl (f141 i) (by simp) (by simp[flat]) (by simp) ?_
  simp[rK]
  (with_reducible repeat' first|refine Xk ?_<;>try simp[rK]|refine Xs ?_ ?_<;>intro h<;>(try intro h')<;>(try simp[h,rK])<;>try omega|refine Xg ?_|omega)
  refine fg.r rfl rfl (f142 g hg i ⟨i0,hi⟩) (by simp) (by simp[flat]) (by simp) ?_
  simp[rK]
  (with_reducible repeat' first|refine Xk ?_<;>try simp[rK]|refine Xs ?_ ?_<;>intro h<;>(try intro h')<;>(try simp[h,rK])<;>try omega|refine Xg ?_|omega)
  refine Yr (f143 g hg _ hp.2 hp.1) ?_
  simp
  (with_reducible repeat' first|refine Xk ?_<;>try simp|refine Xs ?_ ?_<;>intro h<;>(try intro h')<;>(try simp[h])<;>try omega|refine Xg ?_|omega)
  refine LJ.e (i+1) ?_
  exact l4
 ·simp[hi]
  (with_reducible repeat' first|refine Xk ?_<;>try simp|refine Xs ?_ ?_<;>intro h<;>(try intro h')<;>(try simp[h])<;>try omega|refine Xg ?_|omega)
  refine Yr (f144 g hg _ hg.clause (by omega)) ?_
  simp
