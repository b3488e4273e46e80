/- Part 43 of the proof of skewer.skewerlaw15.TableValues. -/
import Derived.Test.YtnaefnajkaohgaaGreatDoorE41
import Derived.Test.YtnaefnajkaohgaaGreatDoorE39
import Derived.Test.YtnaefnajkaohgaaGreatDoorE42
set_option linter.all false
namespace Go.Proofs.YtnaefnajkaohgaaGreatDoor
open Go Go.AL Classical
set_option maxRecDepth 10000
set_option maxHeartbeats 8000000
theorem HS{l:List eY}{n:Int}(h:n.toNat<l.length):(cl fS l).drop (n.toNat*2)=fS (gt l n)++cl fS (l.drop (n.toNat+1)):=by
 rw[sG,bT h,ni]
 congr 1
 unfold gt;rw[List.getD_eq_getElem?_getD,List.getElem?_eq_getElem h];rfl
theorem HT{l:List eY}{n:Int}(h:n.toNat<l.length)(a:Int):(cl fS l).take (n.toNat*2) ++ .i a::(cl fS l).drop (n.toNat*2+1)=cl fS (pt l n (a,(gt l n).2)):=by
 have e:(cl fS l).drop (n.toNat*2+1) = .i (gt l n).2::cl fS (l.drop (n.toNat+1)):=by
  rw[← dw,HS h,tY];rfl
 rw[e,sH]
 unfold pt
 rw[← zJ,ni,tY]
 rfl
theorem TI(g:eU)(hg:fr g)(l:List Pos)(hc:mQ g l)(h0:0<l.length)(m:List Int)(hm:ko g m)(n:Int)(hn:1≤n∧n≤9223372036854775807):Wf T 42 [dG g,.agg [dI m],gb l,.i n] [] (Is (.tup [gQ (pN g l m n).2.1,.i (pN g l m n).1,.i 0])):=by
 have h9:=hc.len
 have Ve:=fun p hp=>xF hg hc (m:=m) hn (p:=p) hp
 have UZ:=fun p hp=>Ic (m:=m) (l:=l) (p:=p) hp
 have fQ:=SV m l
 generalize hR:pN g l m n=R
 unfold pN at hR
 refine Yg DP ?_
 simp[DP]
 refine fw.inl zi rfl rfl (by simp[zi]) rfl ?_
 simp[zi]
 refine Yc (f52 g hg l hc h0) ?_
 simp
 (with_reducible repeat' first|refine Xk ?_<;>try simp|refine Xs ?_ ?_<;>intro h<;>(try intro h')<;>(try simp[h])<;>(try omega)|refine Xg ?_|omega)
 refine fe.s (by simp;rfl) ?_
 refine fe.e ((0,List.replicate l.length (0,0)):Int×List eY) (fun y=>[(2,gb l),(3,.i n),(5,.ptr 1 0 0),(11,.ptr 2 0 0),(33,.i l.length),(34,.i y.1)]) (fun y=>[.row 41 0 g.cells,.row 50 0 [dI m],.row 148 0 [.eT 3 0 2 0 l.length,.eT 4 0 1 0 l.length,.i g.size,.sl 1 (g.next.map fI),dI g.gV,.sl 3 (g.kinds.map Kind.cells),.i g.fq,.b g.lq,dN 4 Clause.cells g.clauses,.i g.blocked,.i g.o4,gb l,.sl 1 ((fE g l).map fN)],.row 58 0 (cl fS y.2),.row 4 0 (cl fB (List.replicate l.length false))]) (fun y=>0≤y.1∧y.1≤l.length∧y.2.length=l.length∧(∀ k:Int,0≤k→k<y.1→gt y.2 k=(2,0))∧(∀ k:Int,y.1≤k→k<l.length→gt y.2 k=(0,0))) (fun y=>(l.length-y.1).toNat) ?_ ?_
 ·dsimp only
  refine⟨by omega,by omega,by simp,fun k k0 k1=>by omega,fun k k0 k1=>vI k0 k1⟩
 rintro⟨i,v⟩ ⟨i0,i1,i2,i3,i4⟩
 dsimp only at i0 i1 i2 i3 i4 ⊢
 by_cases hi:i<l.length
 ·have kU:=gI (v:=((2,(gt v i).2):eY)) i0 (by omega:i<v.length)
  have wk:=i4 i (by omega) hi
  simp[hi]
  (with_reducible repeat' first|refine Xk ?_<;>try simp|refine Xs ?_ ?_<;>intro h<;>(try intro h')<;>(try simp[h])<;>(try omega)|refine Xg ?_|omega)
  refine LJ.i (i+1,pt v i (2,(gt v i).2)) (by first|rfl|simp[HT (by omega:i.toNat<v.length)]) (by first|rfl|simp[HT (by omega:i.toNat<v.length)]) rfl rfl ?_
  dsimp only
  refine⟨by omega,by omega,by omega,by rw[kU];exact i2,fun k k0 k1=>?_,fun k k0 k1=>?_⟩
  ·by_cases e:k=i
   ·subst e;rw[xH i0 (by omega),wk]
   ·rw[Ae i0 (by omega) (by omega) e];exact i3 k k0 (by omega)
  ·rw[Ae i0 (by omega) (by omega) (by omega)];exact i4 k (by omega) k1
 ·simp[hi]
  refine Yc (f77 hg hm hc.ok h9 h0) ?_
  simp
  have hv:v=List.replicate l.length (2,0):=Ac (by simp[i2]) fun j j0 j1=>by rw[i3 j j0 (by omega),vI j0 (by omega)]
  subst hv
  generalize lA m l=cut at *
  refine fe.s (by simp;rfl) ?_
  refine fe.e ((0,List.replicate l.length (2,0),List.replicate l.length false,0):Int×List eY×List Bool×Int) (fun y=>[(3,.i n),(11,.ptr 2 0 0),(14,.i y.2.2.2),(48,.sl 1 (cut.map fI)),(49,.i cut.length),(50,.i y.1)]) (fun y=>[.row 41 0 g.cells,.row 50 0 [dI m],.row 148 0 (jW true g l (fE g l)),.row 58 0 (cl fS y.2.1),.row 4 0 (cl fB y.2.2.1)]) (fun y=>0≤y.1∧y.1≤cut.length∧y.2.1.length=l.length∧y.2.2.1.length=l.length∧0≤y.2.2.2∧y.2.2.2≤y.1*20000000∧pM g l (fE g l) n (cut.drop y.1.toNat) y.2.1 y.2.2.1 y.2.2.2=R) (fun y=>(cut.length-y.1).toNat) ?_ ?_
  ·exact⟨by simp,by simp,by simp,by simp,by simp,by simp,hR⟩
  rintro⟨i,v,b,t⟩ ⟨i0,i1,i2,i3,i4,i5,i6⟩
  dsimp only at i0 i1 i2 i3 i4 i5 i6 ⊢
  by_cases hi:i<cut.length
  ·have kb:=ff i0 hi
   have ho:=Ve _ kb
   obtain⟨c1,c2,c3,c4⟩:=UZ _ kb
   have hft:=Np (g:=g) (l:=l) (nx:=fE g l) (bu:=n) ho.pl v b
   have N9:=(tZ ho n i2 i3).1
   rw[lB i0 hi,pM]at i6
   simp[hi]
   (with_reducible repeat' first|refine Xk ?_<;>try simp|refine Xs ?_ ?_<;>intro h<;>(try intro h')<;>(try simp[h])<;>(try omega)|refine Xg ?_|omega)
   refine fw.nC rfl rfl (f78 true [] ho m v b i2 i3) ?_
   rintro d H' ⟨rfl,rfl⟩
   generalize jJ g l (fE g l) (gt cut i) n v b=r at *
   simp[H5]
   (with_reducible repeat' first|refine Xk ?_<;>try simp|refine Xs ?_ ?_<;>intro h<;>(try intro h')<;>(try simp[h])<;>(try omega)|refine Xg ?_|omega)
   refine LJ.e (i+1,r.2.1,r.2.2,t+r.1) ?_
   dsimp only
   refine⟨by omega,by omega,by omega,N9.1,N9.2,by omega,by omega,?_⟩
   rw[show(i+1).toNat=i.toNat+1 by omega]
   exact i6
  ·have:i=cut.length:=by omega
   subst this
   rw[aZ (by simp),pM]at i6
   subst i6
   simp[jW,i2]
theorem TD(v:List eY)(h9:v.length≤4000):Wf T 24 [gQ v,gQ v] [] (Is (.b true)):=by
 refine Yg Dp ?_
 simp[Dp]
 refine fe.e (0:Int) (fun y=>[(0,gQ v),(1,gQ v),(5,.i y)]) (fun y=>[]) (fun y=>0≤y∧y≤v.length) (fun y=>(v.length-y).toNat) ?_ ?_
 ·simp
 rintro i ⟨i0,i1⟩
 dsimp only at i0 i1 ⊢
 by_cases hi:i<v.length
 ·simp[hi]
  (with_reducible repeat' first|refine Xk ?_<;>try simp|refine Xs ?_ ?_<;>intro h<;>(try intro h')<;>(try simp[h])<;>(try omega)|refine Xg ?_|omega)
  refine LJ.e (i+1) ?_
  omega
 ·simp[hi]
theorem TB(g:eU)(hg:fr g)(l:List Pos)(hc:mQ g l)(h0:0<l.length)(m:List Int)(hm:ko g m)(n:Int)(hn:1≤n∧n≤9223372036854775807):Wf T 18 [dG g,.agg [dI m],gb l,.i n] [] (Is (.agg [gQ (pN g l m n).2.1,.i (pN g l m n).1,.i 0])):=by
 refine Yg CY ?_
 simp[CY]
 refine Yc (TI g hg l hc h0 m hm n hn) ?_
 simp
