/- Part 43 of the proof of skewer.skewerlaw15.TableSlices. -/
import Derived.Test.YtnaefnajkaohgaaGreatDoorC40
import Derived.Test.YtnaefnajkaohgaaGreatDoorC41
import Derived.Test.YtnaefnajkaohgaaGreatDoorC42
import Derived.Test.YtnaefnajkaohgaaGreatDoorC15
set_option linter.all false
namespace Go.Proofs.YtnaefnajkaohgaaGreatDoor
open Go Go.AL Classical
set_option maxRecDepth 10000
set_option maxHeartbeats 8000000
theorem clS_drop{l:List Stp}{n:Int}(h:n.toNat<l.length):(cl fS l).drop (n.toNat*2)=fS (gt l n)++cl fS (l.drop (n.toNat+1)):=by
 rw[cl_drop,List.drop_eq_getElem_cons h,cl_cons]
 congr 1
 unfold gt;rw[List.getD_eq_getElem?_getD,List.getElem?_eq_getElem h];rfl
theorem clS_out{l:List Stp}{n:Int}(h:n.toNat<l.length)(a:Int):(cl fS l).take (n.toNat*2) ++ .i a::(cl fS l).drop (n.toNat*2+1)=cl fS (pt l n (a,(gt l n).2)):=by
 have e:(cl fS l).drop (n.toNat*2+1) = .i (gt l n).2::cl fS (l.drop (n.toNat+1)):=by
  rw[← List.drop_drop,clS_drop h,fS_def];rfl
 rw[e,cl_take]
 unfold pt
 rw[← cl_app,cl_cons,fS_def]
 rfl
theorem f42c(g:Game)(hg:GameOK g)(l:List Pos)(hc:Closed2 g l)(h0:0<l.length)(m:List Int)(hm:MOK g m)(n:Int)(hn:1≤n∧n≤9223372036854775807):Wf T 42 [dG g,.agg [dI m],dPs l,.i n] [] (Is (.tup [dProg (mkT g l m n).2.1,.i (mkT g l m n).1,.i 0])):=by
 have h9:=hc.len
 have hfok:=fun p hp=>fok hg hc (m:=m) hn (p:=p) hp
 have hcin:=fun p hp=>cutL_in (m:=m) (l:=l) (p:=p) hp
 have hcl:=cutL_len m l
 generalize hR:mkT g l m n=R
 unfold mkT at hR
 refine Yg F42 ?_
 simp[F42]
 refine XCall.inl F70 rfl rfl (by simp[F70]) rfl ?_
 simp[F70]
 refine Yc (f52 g hg l hc h0) ?_
 simp
 (with_reducible repeat' first|refine Xk ?_<;>try simp|refine Xs ?_ ?_<;>intro h<;>(try intro h')<;>(try simp[h])<;>(try omega)|refine Xg ?_|omega)
 refine XLoop.s (by simp;rfl) ?_
 refine XLoop.e ((0,List.replicate l.length (0,0)):Int×List Stp) (fun y=>[(2,dPs l),(3,.i n),(5,.ptr 1 0 0),(11,.ptr 2 0 0),(33,.i l.length),(34,.i y.1)]) (fun y=>[.row 41 0 g.cells,.row 50 0 [dI m],.row 148 0 [.osl 3 0 2 0 l.length,.osl 4 0 1 0 l.length,.i g.size,.sl 1 (g.next.map fI),dI g.turn,.sl 3 (g.kinds.map Kind.cells),.i g.rights,.b g.must,dN 4 Clause.cells g.clauses,.i g.blocked,.i g.endless,dPs l,.sl 1 ((nextI g l).map fN)],.row 58 0 (cl fS y.2),.row 4 0 (cl fB (List.replicate l.length false))]) (fun y=>0≤y.1∧y.1≤l.length∧y.2.length=l.length∧(∀ k:Int,0≤k→k<y.1→gt y.2 k=(2,0))∧(∀ k:Int,y.1≤k→k<l.length→gt y.2 k=(0,0))) (fun y=>(l.length-y.1).toNat) ?_ ?_
 ·dsimp only
  refine⟨by omega,by omega,by simp,fun k k0 k1=>by omega,fun k k0 k1=>gt_rep k0 k1⟩
 rintro⟨i,v⟩ ⟨i0,i1,i2,i3,i4⟩
 dsimp only at i0 i1 i2 i3 i4 ⊢
 by_cases hi:i<l.length
 ·have hpl:=pt_len (v:=((2,(gt v i).2):Stp)) i0 (by omega:i<v.length)
  have hvi:=i4 i (by omega) hi
  simp[hi]
  (with_reducible repeat' first|refine Xk ?_<;>try simp|refine Xs ?_ ?_<;>intro h<;>(try intro h')<;>(try simp[h])<;>(try omega)|refine Xg ?_|omega)
  refine LJ.i (i+1,pt v i (2,(gt v i).2)) (by first|rfl|simp[clS_out (by omega:i.toNat<v.length)]) (by first|rfl|simp[clS_out (by omega:i.toNat<v.length)]) rfl rfl ?_
  dsimp only
  refine⟨by omega,by omega,by omega,by rw[hpl];exact i2,fun k k0 k1=>?_,fun k k0 k1=>?_⟩
  ·by_cases e:k=i
   ·subst e;rw[gt_pt_eq i0 (by omega),hvi]
   ·rw[gt_pt_ne i0 (by omega) (by omega) e];exact i3 k k0 (by omega)
  ·rw[gt_pt_ne i0 (by omega) (by omega) (by omega)];exact i4 k (by omega) k1
 ·simp[hi]
  refine Yc (f77 hg hm hc.ok h9 h0) ?_
  simp
  have hv:v=List.replicate l.length (2,0):=gt_ext (by simp[i2]) fun j j0 j1=>by rw[i3 j j0 (by omega),gt_rep j0 (by omega)]
  subst hv
  generalize cutL m l=cut at *
  refine XLoop.s (by simp;rfl) ?_
  refine XLoop.e ((0,List.replicate l.length (2,0),List.replicate l.length false,0):Int×List Stp×List Bool×Int) (fun y=>[(3,.i n),(11,.ptr 2 0 0),(14,.i y.2.2.2),(48,.sl 1 (cut.map fI)),(49,.i cut.length),(50,.i y.1)]) (fun y=>[.row 41 0 g.cells,.row 50 0 [dI m],.row 148 0 (tbl true g l (nextI g l)),.row 58 0 (cl fS y.2.1),.row 4 0 (cl fB y.2.2.1)]) (fun y=>0≤y.1∧y.1≤cut.length∧y.2.1.length=l.length∧y.2.2.1.length=l.length∧0≤y.2.2.2∧y.2.2.2≤y.1*20000000∧mkR g l (nextI g l) n (cut.drop y.1.toNat) y.2.1 y.2.2.1 y.2.2.2=R) (fun y=>(cut.length-y.1).toNat) ?_ ?_
  ·exact⟨by simp,by simp,by simp,by simp,by simp,by simp,hR⟩
  rintro⟨i,v,b,t⟩ ⟨i0,i1,i2,i3,i4,i5,i6⟩
  dsimp only at i0 i1 i2 i3 i4 i5 i6 ⊢
  by_cases hi:i<cut.length
  ·have hmem:=gt_mem i0 hi
   have ho:=hfok _ hmem
   obtain⟨c1,c2,c3,c4⟩:=hcin _ hmem
   have hft:=fillR_t (g:=g) (l:=l) (nx:=nextI g l) (bu:=n) ho.pl v b
   have hfo:=(fillR_out ho n i2 i3).1
   rw[drop_gt i0 hi,mkR]at i6
   simp[hi]
   (with_reducible repeat' first|refine Xk ?_<;>try simp|refine Xs ?_ ?_<;>intro h<;>(try intro h')<;>(try simp[h])<;>(try omega)|refine Xg ?_|omega)
   refine XCall.isF rfl rfl (f78 true [] ho m v b i2 i3) ?_
   rintro d H' ⟨rfl,rfl⟩
   generalize fillR g l (nextI g l) (gt cut i) n v b=r at *
   simp[H5]
   (with_reducible repeat' first|refine Xk ?_<;>try simp|refine Xs ?_ ?_<;>intro h<;>(try intro h')<;>(try simp[h])<;>(try omega)|refine Xg ?_|omega)
   refine LJ.e (i+1,r.2.1,r.2.2,t+r.1) ?_
   dsimp only
   refine⟨by omega,by omega,by omega,hfo.1,hfo.2,by omega,by omega,?_⟩
   rw[show(i+1).toNat=i.toNat+1 by omega]
   exact i6
  ·have:i=cut.length:=by omega
   subst this
   rw[List.drop_of_length_le (by simp),mkR]at i6
   subst i6
   simp[tbl,i2]
theorem f24s(v:List Stp)(h9:v.length≤4000):Wf T 24 [dProg v,dProg v] [] (Is (.b true)):=by
 refine Yg F24 ?_
 simp[F24]
 refine XLoop.e (0:Int) (fun y=>[(0,dProg v),(1,dProg v),(5,.i y)]) (fun y=>[]) (fun y=>0≤y∧y≤v.length) (fun y=>(v.length-y).toNat) ?_ ?_
 ·simp
 rintro i ⟨i0,i1⟩
 dsimp only at i0 i1 ⊢
 by_cases hi:i<v.length
 ·simp[hi]
  (with_reducible repeat' first|refine Xk ?_<;>try simp|refine Xs ?_ ?_<;>intro h<;>(try intro h')<;>(try simp[h])<;>(try omega)|refine Xg ?_|omega)
  refine LJ.e (i+1) ?_
  omega
 ·simp[hi]
theorem f18m(g:Game)(hg:GameOK g)(l:List Pos)(hc:Closed2 g l)(h0:0<l.length)(m:List Int)(hm:MOK g m)(n:Int)(hn:1≤n∧n≤9223372036854775807):Wf T 18 [dG g,.agg [dI m],dPs l,.i n] [] (Is (.agg [dProg (mkT g l m n).2.1,.i (mkT g l m n).1,.i 0])):=by
 refine Yg F18 ?_
 simp[F18]
 refine Yc (f42c g hg l hc h0 m hm n hn) ?_
 simp
end Go.Proofs.YtnaefnajkaohgaaGreatDoor
namespace Go.Proofs.YtnaefnajkaohgaaGreatDoor
open Go Go.AL Classical
set_option maxRecDepth 10000
set_option maxHeartbeats 8000000
def bitR(r n:Int):Int:=bits .and .i64 (shrK .i64 r n) 1
theorem bitR_def(r n:Int):bits .and .i64 (shrK .i64 r n) 1=bitR r n:=rfl
theorem bitR_sum:∀ i:Fin 4,bitR (i.val:Int) 0+bitR (i.val:Int) 1+bitR (i.val:Int) 2+bitR (i.val:Int) 3=popR (i.val:Int):=by decide
theorem bitR_in:∀ (i:Fin 4) (n:Fin 4),0≤bitR (i.val:Int) (n.val:Int)∧bitR (i.val:Int) (n.val:Int)≤1:=by decide
section
variable{g:Game}{m:List Int}{p:Pos}{l:List Pos}
theorem f28(hg:GameOK g)(hm:MOK g m)(hp:PosOK g p):Wf T 28 [.agg [dI m],dP p] [] (Is (.i (levL m p))):=by
 have hk:=hg.kinds
 have hsz:=hp.size
 have hbs:=hg.board.size
 have lm:=hm.len
 have l0:=hp.h0.len
 have l1:=hp.h1.len
 refine Yg F28 ?_
 simp[F28]
 refine XLoop.e (0:Int) (fun y=>[(2,.ptr 0 0 0),(3,.ptr 1 0 0),(5,.i (lvA m p.cs y.toNat)),(6,.i y)]) (fun y=>[.row 50 0 [dI m],.row 44 0 p.cells]) (fun y=>0≤y∧y≤p.cs.length) (fun y=>(p.cs.length-y).toNat) ?_ ?_
 ·simp
 rintro i ⟨i0,i1⟩
 dsimp only at i0 i1 ⊢
 by_cases hi:i<p.cs.length
 ·have hs:=lvA_s (m:=m) (cs:=p.cs) i0
  have hin:=lvA_in hg hm hp i.toNat (by omega)
  have hmem:=gt_mem i0 hi
  have hcs:=hp.cs _ hmem
  have hci:=lvC_in hg hm hp hmem
  have hmk:=manK_in hk.2 hcs
  simp[hi]
  by_cases h0:gt p.cs i=0
  ·have hz:lvC m (gt p.cs i)=0:=by rw[h0];unfold lvC manK;simp
   simp[h0]
   (with_reducible repeat' first|refine Xk ?_<;>try simp|refine Xs ?_ ?_<;>intro h<;>(try intro h')<;>(try simp[h])<;>(try omega)|refine Xg ?_|omega)
   refine LJ.i (i+1) (by first|rfl|simp[hs,hz]) (by first|rfl|simp[hs,hz]) rfl rfl ?_
   omega
  ·have hkk:0≤manK (gt p.cs i):=by unfold manK;rw[if_pos (by omega)];omega
   have hz:lvC m (gt p.cs i)=gt m (manK (gt p.cs i)):=by unfold lvC;rw[if_pos hkk]
   have hmk2:=hmk hkk
   rw[hz]at hs hci
   simp[h0]
   (with_reducible repeat' first|refine Xk ?_<;>try simp|refine Xs ?_ ?_<;>intro h<;>(try intro h')<;>(try simp[h])<;>(try omega)|refine Xg ?_|omega)
   refine Yt (f51 _) ?_
   simp
   (with_reducible repeat' first|refine Xk ?_<;>try simp|refine Xs ?_ ?_<;>intro h<;>(try intro h')<;>(try simp[h])<;>(try omega)|refine Xg ?_|omega)
   refine LJ.i (i+1) (by first|rfl|simp[hs]) (by first|rfl|simp[hs]) rfl rfl ?_
   omega
 have hie:i=p.cs.length:=by omega
 subst hie
 simp
 have hA:=lvA_in hg hm hp p.cs.length (Nat.le_refl _)
 unfold levL
 generalize lvA m p.cs p.cs.length=A at *
 refine XLoop.e (0:Int) (fun y=>[(2,.ptr 0 0 0),(3,.ptr 1 0 0),(5,.i (A+lvH m p.h0 p.h1 y.toNat)),(7,.i y)]) (fun y=>[.row 50 0 [dI m],.row 44 0 p.cells]) (fun y=>0≤y∧y≤m.length) (fun y=>(m.length-y).toNat) ?_ ?_
 ·simp
 rintro i ⟨i0,i1⟩
 dsimp only at i0 i1 ⊢
 by_cases hi:i<m.length
 ·have hs:=lvH_s (m:=m) (a:=p.h0) (b:=p.h1) i0
  have hin:=lvH_in hm hp i.toNat (by omega)
  have ht:=lvH_t hm hp i0 hi
  simp[hi]
  (with_reducible repeat' first|refine Xk ?_<;>try simp|refine Xs ?_ ?_<;>intro h<;>(try intro h')<;>(try simp[h])<;>(try omega)|refine Xg ?_|omega)
  refine LJ.i (i+1) (by first|rfl|simp[hs,Int.add_assoc]) (by first|rfl|simp[hs,Int.add_assoc]) rfl rfl ?_
  omega
 have hie:i=m.length:=by omega
 subst hie
 simp
 have hH:=lvH_in hm hp m.length (Nat.le_refl _)
 generalize lvH m p.h0 p.h1 m.length=B at *
 obtain⟨r,hr⟩:=nat4 hp.rights.1 (show p.rights<4 by have:=rights4 hg hp;omega)
 have hsum:=bitR_sum r
 have b0:=bitR_in r 0
 have b1:=bitR_in r 1
 have b2:=bitR_in r 2
 have b3:=bitR_in r 3
 rw[← hr]at hsum b0 b1 b2 b3
 generalize p.rights=R at *
 rw[← hsum]
 change 0≤bitR R 0∧bitR R 0≤1 at b0
 change 0≤bitR R 1∧bitR R 1≤1 at b1
 change 0≤bitR R 2∧bitR R 2≤1 at b2
 change 0≤bitR R 3∧bitR R 3≤1 at b3
 refine XLoop.un ?_
 refine XLoopN.u ?_
 simp[bitR_def]
 (with_reducible repeat' first|refine Xk ?_<;>try simp[bitR_def]|refine Xs ?_ ?_<;>intro h<;>(try intro h')<;>(try simp[h,bitR_def])<;>(try omega)|refine Xg ?_|omega)
 refine XLoopN.u ?_
 simp[bitR_def]
 (with_reducible repeat' first|refine Xk ?_<;>try simp[bitR_def]|refine Xs ?_ ?_<;>intro h<;>(try intro h')<;>(try simp[h,bitR_def])<;>(try omega)|refine Xg ?_|omega)
 refine XLoopN.u ?_
 simp[bitR_def]
 (with_reducible repeat' first|refine Xk ?_<;>try simp[bitR_def]|refine Xs ?_ ?_<;>intro h<;>(try intro h')<;>(try simp[h,bitR_def])<;>(try omega)|refine Xg ?_|omega)
 refine XLoopN.u ?_
 simp[bitR_def]
 (with_reducible repeat' first|refine Xk ?_<;>try simp[bitR_def]|refine Xs ?_ ?_<;>intro h<;>(try intro h')<;>(try simp[h,bitR_def])<;>(try omega)|refine Xg ?_|omega)
 refine XLoopN.u ?_
 simp[bitR_def]
 omega
theorem f23(hg:GameOK g)(hm:MOK g m)(hl:∀ p∈l,PosOK g p)(h9:l.length≤4000):Wf T 23 [.agg [dI m],dPs l] [] (Is (.sl 1 ((cutL m l).map fI))):=by
 have hlv:∀ j:Int,0≤j→j<l.length→0≤levL m (gt l j):=fun j j0 j1=>(levL_in hg hm (hl _ (gt_mem j0 j1))).1
 have hL:=lvls_len m l
 refine Yz F23 (insB 60 [2] F23.body) ?_
 simp[F23,insB,insC,befK,froK,hasK,headIs]
 refine XLoop.e ((-1,0,[]):Int×Nat×List (List Int)) (fun y=>[(1,dPs l),(2,.ptr 0 0 0),(5,.osl 1 y.2.1 1 0 y.2.2.length),(6,.i y.1)]) (fun y=>[.row 50 0 [dI m],.row 33 y.2.1 (cl fI y.2.2)]) (fun y => -1≤y.1∧y.2.2=(lvTo m l y.1).map (filt m l)) (fun y=>((lvls m l).length-(lvTo m l y.1).length)) ?_ ?_
 ·simp[lvTo_no hlv]
 rintro⟨last,gn,out⟩ ⟨i0,i1⟩
 dsimp only at i0 i1 ⊢
 have hlt:=lvTo_len m l last
 have hol:out.length=(lvTo m l last).length:=by rw[i1,List.length_map]
 simp
 refine XLoop.e (0:Int) (fun y=>[(1,dPs l),(2,.ptr 0 0 0),(5,.osl 1 gn 1 0 out.length),(6,.i last),(7,.i (nx1 m l last y.toNat)),(8,.osl 2 0 1 0 0),(9,.i y)]) (fun y=>[.row 50 0 [dI m],.row 33 gn (cl fI out),.row 3 0 []]) (fun y=>0≤y∧y≤l.length) (fun y=>(l.length-y).toNat) ?_ ?_
 ·simp
 rintro i ⟨j0,j1⟩
 dsimp only at j0 j1 ⊢
 by_cases hi:i<l.length
 ·have hs:=nx1_s (m:=m) (l:=l) (last:=last) j0
  have hp:=hl _ (gt_mem j0 hi)
  have hin:=levL_in hg hm hp
  simp[hi]
  (with_reducible repeat' first|refine Xk ?_<;>try simp|refine Xs ?_ ?_<;>intro h<;>(try intro h')<;>(try simp[h])<;>(try omega)|refine Xg ?_|omega)
  refine Yt (f28 hg hm hp) ?_
  simp
  generalize levL m (gt l i)=L at *
  generalize nx1 m l last i.toNat=x at *
  (with_reducible repeat' first|refine Xk ?_<;>try simp|refine Xs ?_ ?_<;>intro h<;>(try intro h')<;>(try simp[h])<;>(try omega)|refine Xg ?_|omega)
  ·refine LJ.i (i+1) (by first|rfl|simp[hs,show last<L∧(x<0∨L<x)by omega]) (by first|rfl|simp[hs,show last<L∧(x<0∨L<x)by omega]) rfl rfl ?_
   omega
  ·refine LJ.i (i+1) (by first|rfl|simp[hs,show last<L∧(x<0∨L<x)by omega]) (by first|rfl|simp[hs,show last<L∧(x<0∨L<x)by omega]) rfl rfl ?_
   omega
  ·refine LJ.i (i+1) (by first|rfl|simp[hs,show ¬ (last<L∧(x<0∨L<x))by omega]) (by first|rfl|simp[hs,show ¬ (last<L∧(x<0∨L<x))by omega]) rfl rfl ?_
   omega
  ·refine LJ.i (i+1) (by first|rfl|simp[hs,show ¬ (last<L∧(x<0∨L<x))by omega]) (by first|rfl|simp[hs,show ¬ (last<L∧(x<0∨L<x))by omega]) rfl rfl ?_
   omega
 ·have hie:i=l.length:=by omega
  subst hie
  simp
  have hnx:=nx1_ok hlv last l.length (Nat.le_refl _)
  generalize nx1 m l last l.length=x at *
  rcases hnx with⟨rfl,h1⟩|⟨⟨h0,h1⟩,h2,h3⟩
  ·have e:out=cutL m l:=by rw[i1,lvTo_all h1];rfl
   simp[e]
  ·have hn:=lvTo_next h1 h2 h3
   have hx:¬ x<0:=by omega
   simp[hx]
   refine XLoop.e ((0,0,[]):Int×Nat×List Int) (fun y=>[(1,dPs l),(2,.ptr 0 0 0),(5,.osl 1 gn 1 0 out.length),(7,.i x),(8,.osl 2 y.2.1 1 0 y.2.2.length),(11,.i y.1)]) (fun y=>[.row 50 0 [dI m],.row 33 gn (cl fI out),.row 3 y.2.1 (cl f1 y.2.2)]) (fun y=>0≤y.1∧y.1≤l.length∧y.2.2=filtN m l x y.1.toNat) (fun y=>(l.length-y.1).toNat) ?_ ?_
   ·simp[filtN,upto]
   rintro⟨i,gm,u⟩ ⟨k0,k1,k2⟩
   dsimp only at k0 k1 k2 ⊢
   have hul:u.length≤i.toNat:=by
    rw[k2]
    exact nodup_le _ _ ((upto_srt _).nd.filter _) fun y hy=>(mem_filtN.1 hy).1
   by_cases hi:i<l.length
   ·have hp:=hl _ (gt_mem k0 hi)
    have hs:=filtN_s (m:=m) (l:=l) (n:=x) k0
    simp[hi]
    (with_reducible repeat' first|refine Xk ?_<;>try simp|refine Xs ?_ ?_<;>intro h<;>(try intro h')<;>(try simp[h])<;>(try omega)|refine Xg ?_|omega)
    refine Yt (f28 hg hm hp) ?_
    simp
    (with_reducible repeat' first|refine Xk ?_<;>try simp|refine Xs ?_ ?_<;>intro h<;>(try intro h')<;>(try simp[h])<;>(try omega)|refine Xg ?_|omega)
    ·refine LJ.e (i+1,gm+1,u ++ [i]) ?_
     dsimp only
     exact⟨by omega,by omega,by omega,by rw[hs,k2,if_pos (by assumption)]⟩
    ·refine LJ.e (i+1,gm,u) ?_
     dsimp only
     exact⟨by omega,by omega,by omega,by rw[hs,k2,if_neg (by assumption),List.append_nil]⟩
   ·have hie:i=l.length:=by omega
    subst hie
    simp
    (with_reducible repeat' first|refine Xk ?_<;>try simp|refine Xs ?_ ?_<;>intro h<;>(try intro h')<;>(try simp[h])<;>(try omega)|refine Xg ?_|omega)
    refine LJ.e (x,gn+1,out ++ [u]) ?_
    dsimp only
    refine⟨?_,by omega,?_⟩
    ·have:=lvTo_len m l x
     rw[hn]at this ⊢
     simp at this ⊢
     omega
    ·rw[hn,List.map_append,i1,k2];rfl
end
end Go.Proofs.YtnaefnajkaohgaaGreatDoor
namespace Go.Proofs.YtnaefnajkaohgaaGreatDoor
open Go Go.AL Classical
set_option maxRecDepth 10000
set_option maxHeartbeats 8000000
def becP(b:Int)(l:List Stp):Bool:=l.any fun s=>s.1 == 8&&s.2 == b
def bec(g:Game)(a b:Int):Bool:=(gt g.kinds a).progs.any (becP b)
structure MVal(g:Game)(m:List Int):Prop where
 ok:MOK g m
 le:∀ a b:Int,0≤a→a<g.kinds.length→0≤b→b<g.kinds.length→bec g a b=true→gt m b≤gt m a
theorem any_take{α:Type}[Inhabited α](f:α→Bool){l:List α}{i:Int}(i0:0≤i)(hi:i<l.length):(l.take (i+1).toNat).any f=((l.take i.toNat).any f||f (gt l i)):=by
 rw[take_gt i0 hi,List.any_append];simp
theorem any_gt{α:Type}[Inhabited α]{f:α→Bool}{l:List α}{i:Int}(i0:0≤i)(hi:i<l.length)(h:f (gt l i)=true):l.any f=true:=List.any_eq_true.2 ⟨_,gt_mem i0 hi,h⟩
theorem gt_app{α:Type}[Inhabited α]{l l':List α}{n:Int}(h0:0≤n)(h:n<l.length):gt (l++l') n=gt l n:=by
 unfold gt
 rw[List.getD_eq_getElem?_getD,List.getD_eq_getElem?_getD,List.getElem?_append_left (by omega)]
theorem f62m(g:Game)(hg:GameOK g)(a b:Int)(ha:0≤a∧a<g.kinds.length):Wf T 62 [dG g,.i a,.i b] [] (Is (.b (bec g a b))):=by
 have hk:=hg.progs _ (gt_mem (l:=g.kinds) ha.1 ha.2)
 refine Yg F62 ?_
 simp[F62]
 refine XLoop.e (0:Int) (fun i=>[(1,.i a),(2,.i b),(3,.ptr 0 0 0),(7,.i i)]) (fun i=>[.row 41 0 g.cells]) (fun i=>0≤i∧i≤(gt g.kinds a).progs.length∧((gt g.kinds a).progs.take i.toNat).any (becP b)=false) (fun i=>(gt g.kinds a).progs.length-i.toNat) ?_ ?_
 ·simp
 rintro i ⟨i0,i1,i2⟩
 by_cases hi:i<(gt g.kinds a).progs.length
 ·have hp:=(hk.2 _ (gt_mem i0 hi)).len
  have hn:=any_take (becP b) i0 hi
  have hin:becP b (gt (gt g.kinds a).progs i)=true→bec g a b=true:=any_gt (f:=becP b) i0 hi
  rw[i2,Bool.false_or]at hn
  simp[hi]
  generalize hpp:gt (gt g.kinds a).progs i=p at *
  (with_reducible repeat' first|refine Xk ?_<;>try simp|refine Xs ?_ ?_<;>intro h<;>(try intro h')<;>(try simp[h])<;>(try omega)|refine Xg ?_|omega)
  refine XLoop.e (0:Int) (fun j=>[(1,.i a),(2,.i b),(3,.ptr 0 0 0),(7,.i i),(8,dProg p),(9,.i j)]) (fun j=>[.row 41 0 g.cells]) (fun j=>0≤j∧j≤p.length∧(p.take j.toNat).any (fun s=>s.1 == 8&&s.2 == b)=false) (fun j=>p.length-j.toNat) ?_ ?_
  ·simp
  rintro j ⟨j0,j1,j2⟩
  by_cases hj:j<p.length
  ·have hjn:=any_take (fun s:Stp=>s.1 == 8&&s.2 == b) j0 hj
   have hjin:=any_gt (f:=fun s:Stp=>s.1 == 8&&s.2 == b) j0 hj
   rw[j2,Bool.false_or]at hjn
   simp[hj]
   (with_reducible repeat' first|refine Xk ?_<;>try simp|refine Xs ?_ ?_<;>intro h<;>(try intro h')<;>(try simp[h])<;>(try omega)|refine Xg ?_|omega)
   ·rw[hin (hjin (by simp[*]))]
   ·refine LJ.e (j+1) ?_
    exact⟨by omega,by omega,by omega,by rw[hjn];simp[*]⟩
   ·refine LJ.e (j+1) ?_
    exact⟨by omega,by omega,by omega,by rw[hjn];simp[*]⟩
  ·rw[take_all (by omega)]at j2
   simp[hj]
   (with_reducible repeat' first|refine Xk ?_<;>try simp|refine Xs ?_ ?_<;>intro h<;>(try intro h')<;>(try simp[h])<;>(try omega)|refine Xg ?_|omega)
   refine LJ.e (i+1) ?_
   exact⟨by omega,by omega,by omega,by rw[hn];exact j2⟩
 ·rw[take_all (by omega)]at i2
  have:bec g a b=false:=i2
  simp[hi,this]
  exact ha
theorem f63m(g:Game)(hg:GameOK g)(a:Int)(ha:0≤a∧a<g.kinds.length):Wf T 63 [dG g,.i a] [] (Ey dI fun r=>1≤r.length∧r.length≤g.kinds.length∧a∈r∧∀ c:Int,0≤c→c<g.kinds.length→bec g a c=true→c∈r):=by
 have hk:=hg.kinds
 have hnd:∀ w:List Int,w.Nodup→(∀ y∈w,0≤y∧y<g.kinds.length)→w.length≤g.kinds.length:=fun w h1 h2=>nodup_le _ w h1 h2
 refine Yg F63 ?_
 simp[F63]
 refine XLoop.e ((0,0,[a]):Int×Nat×List Int) (fun y=>[(2,.ptr 0 0 0),(5,.osl 1 y.2.1 1 0 y.2.2.length),(6,.i y.1)]) (fun y=>[.row 41 0 g.cells,.row 3 y.2.1 (cl f1 y.2.2)]) (fun y=>0≤y.1∧y.1≤y.2.2.length∧y.2.2.Nodup∧(∀ z∈y.2.2,0≤z∧z<g.kinds.length)∧(1≤y.2.2.length∧gt y.2.2 0=a)∧(∀ c:Int,0≤c→c<g.kinds.length→0<y.1→bec g a c=true→c∈y.2.2)) (fun y=>g.kinds.length-y.1.toNat) ?_ ?_
 ·simp;exact⟨by omega,by omega,rfl⟩
 rintro⟨i,gn,w⟩ ⟨i0,i1,i2,i3,i4,i5⟩
 dsimp only at i0 i1 i2 i3 i4 i5 ⊢
 have hw:=hnd w i2 i3
 by_cases hi:i<w.length
 ·simp[hi]
  refine XLoop.e ((0,gn,w):Int×Nat×List Int) (fun y=>[(2,.ptr 0 0 0),(5,.osl 1 y.2.1 1 0 y.2.2.length),(6,.i i),(7,.i y.1)]) (fun y=>[.row 41 0 g.cells,.row 3 y.2.1 (cl f1 y.2.2)]) (fun y=>0≤y.1∧y.1≤g.kinds.length∧y.2.2.Nodup∧(∀ z∈y.2.2,0≤z∧z<g.kinds.length)∧w.length≤y.2.2.length∧gt y.2.2 0=a∧(∀ c:Int,0≤c→c<g.kinds.length→0<i∨c<y.1→bec g a c=true→c∈y.2.2)) (fun y=>g.kinds.length-y.1.toNat) ?_ ?_
  ·simp;exact⟨i2,i3,i4.2,fun c c0 c1 c2=>i5 c c0 c1 (by omega)⟩
  rintro⟨b,gm,u⟩ ⟨b0,b1,b2,b3,b4,b5,b6⟩
  dsimp only at b0 b1 b2 b3 b4 b5 b6 ⊢
  have hu:=hnd u b2 b3
  by_cases hb:b<g.kinds.length
  ·simp[hb]
   refine XLoop.e ((0,false):Int×Bool) (fun y=>[(2,.ptr 0 0 0),(5,.osl 1 gm 1 0 u.length),(6,.i i),(7,.i b),(8,.b y.2),(9,.i y.1)]) (fun y=>[.row 41 0 g.cells,.row 3 gm (cl f1 u)]) (fun y=>0≤y.1∧y.1≤u.length∧y.2=decide (b∈u.take y.1.toNat)) (fun y=>u.length-y.1.toNat) ?_ ?_
   ·simp
   rintro⟨k,kn⟩ ⟨k0,k1,k2⟩
   dsimp only at k0 k1 k2 ⊢
   by_cases hk:k<u.length
   ·cases kn<;>simp[hk]
    ·(with_reducible repeat' first|refine Xk ?_<;>try simp|refine Xs ?_ ?_<;>intro h<;>(try intro h')<;>(try simp[h])<;>(try omega)|refine Xg ?_|omega)
     refine LJ.e (k+1,decide (gt u k=b)) ?_
     dsimp only
     refine⟨by omega,by omega,by omega,?_⟩
     rw[take_gt k0 hk]
     simp at k2
     simp[k2,eq_comm]
    ·(with_reducible repeat' first|refine Xk ?_<;>try simp|refine Xs ?_ ?_<;>intro h<;>(try intro h')<;>(try simp[h])<;>(try omega)|refine Xg ?_|omega)
     refine LJ.e (k+1,true) ?_
     dsimp only
     refine⟨by omega,by omega,by omega,?_⟩
     rw[take_gt k0 hk]
     simp at k2
     simp[k2]
   ·rw[take_all (by omega)]at k2
    cases kn<;>simp[hk]
    ·have hbu:b ∉ u:=by simpa using k2
     have hgu:=b3 _ (gt_mem (l:=u) i0 (by omega))
     (with_reducible repeat' first|refine Xk ?_<;>try simp|refine Xs ?_ ?_<;>intro h<;>(try intro h')<;>(try simp[h])<;>(try omega)|refine Xg ?_|omega)
     refine Yt (f62m g hg _ b hgu) ?_
     simp
     (with_reducible repeat' first|refine Xk ?_<;>try simp|refine Xs ?_ ?_<;>intro h<;>(try intro h')<;>(try simp[h])<;>(try omega)|refine Xg ?_|omega)
     ·refine LJ.e (b+1,gm+1,u ++ [b]) ?_
      dsimp only
      refine⟨by omega,by omega,by omega,List.nodup_append.2 ⟨b2,by simp,fun y hy z hz e=>?_⟩,fun z hz=>?_,by simp;omega,?_,fun c c0 c1 c2 c3=>?_⟩
      ·rw[List.mem_singleton]at hz;subst hz;subst e;exact hbu hy
      ·rcases List.mem_append.1 hz with hz|hz
       ·exact b3 z hz
       ·rw[List.mem_singleton]at hz;omega
      ·rw[← b5];exact gt_app (by omega) (by omega)
      ·by_cases e:c=b
       ·subst e;simp
       ·exact List.mem_append_left _ (b6 c c0 c1 (by omega) c3)
     ·refine LJ.e (b+1,gm,u) ?_
      dsimp only
      refine⟨by omega,by omega,by omega,b2,b3,b4,b5,fun c c0 c1 c2 c3=>?_⟩
      by_cases e:0<i∨c<b
      ·exact b6 c c0 c1 e c3
      ·have e1:c=b:=by omega
       have e2:i=0:=by omega
       have hbf:bec g (gt u i) b=false:=by assumption
       rw[e2,b5,← e1,c3]at hbf
       cases hbf
    ·(with_reducible repeat' first|refine Xk ?_<;>try simp|refine Xs ?_ ?_<;>intro h<;>(try intro h')<;>(try simp[h])<;>(try omega)|refine Xg ?_|omega)
     refine LJ.e (b+1,gm,u) ?_
     dsimp only
     have hbu:b∈u:=by simpa using k2
     refine⟨by omega,by omega,by omega,b2,b3,b4,b5,fun c c0 c1 c2 c3=>?_⟩
     by_cases e:c=b
     ·subst e;exact hbu
     ·exact b6 c c0 c1 (by omega) c3
  ·simp[hb]
   (with_reducible repeat' first|refine Xk ?_<;>try simp|refine Xs ?_ ?_<;>intro h<;>(try intro h')<;>(try simp[h])<;>(try omega)|refine Xg ?_|omega)
   refine LJ.e (i+1,gm,u) ?_
   dsimp only
   exact⟨by omega,by omega,by omega,b2,b3,⟨by omega,b5⟩,fun c c0 c1 _ c3=>b6 c c0 c1 (by omega) c3⟩
 ·simp[hi]
  exact Ey.i w rfl rfl ⟨i4.1,hw,by rw[← i4.2];exact gt_mem (by omega) (by omega),fun c c0 c1 c3=>i5 c c0 c1 (by omega) c3⟩
theorem f35m(g:Game)(hg:GameOK g)(m:List Int)(hm:m.length=g.kinds.length):Wf T 35 [dG g,.agg [dI m]] [] (Ey D.b fun b=>b=true→MVal g m):=by
 have hk:=hg.kinds
 refine Yg F35 ?_
 simp[F35]
 (with_reducible repeat' first|refine Xk ?_<;>try simp|refine Xs ?_ ?_<;>intro h<;>(try intro h')<;>(try simp[h])<;>(try omega)|refine Xg ?_|omega)
 refine XLoop.e (0:Int) (fun i=>[(2,.ptr 0 0 0),(3,.ptr 1 0 0),(5,.i i)]) (fun i=>[.row 41 0 g.cells,.row 50 0 [dI m]]) (fun i=>0≤i∧i≤g.kinds.length∧∀ a:Int,0≤a→a<i→(1≤gt m a∧gt m a≤6)∧∀ b:Int,0≤b→b<g.kinds.length→bec g a b=true→gt m b≤gt m a) (fun i=>g.kinds.length-i.toNat) ?_ ?_
 ·simp;omega
 rintro i ⟨i0,i1,i2⟩
 by_cases hi:i<g.kinds.length
 ·simp[hi]
  (with_reducible repeat' first|refine Xk ?_<;>try simp|refine Xs ?_ ?_<;>intro h<;>(try intro h')<;>(try simp[h])<;>(try omega)|refine Xg ?_|omega)
  ·exact Ey.i false rfl rfl (by simp)
  ·exact Ey.i false rfl rfl (by simp)
  ·refine XLoop.e (0:Int) (fun j=>[(2,.ptr 0 0 0),(3,.ptr 1 0 0),(5,.i i),(6,.i j)]) (fun j=>[.row 41 0 g.cells,.row 50 0 [dI m]]) (fun j=>0≤j∧j≤g.kinds.length∧∀ b:Int,0≤b→b<j→bec g i b=true→gt m b≤gt m i) (fun j=>g.kinds.length-j.toNat) ?_ ?_
   ·simp;omega
   rintro j ⟨j0,j1,j2⟩
   by_cases hj:j<g.kinds.length
   ·simp[hj]
    refine Yt (f62m g hg i j ⟨i0,hi⟩) ?_
    simp
    (with_reducible repeat' first|refine Xk ?_<;>try simp|refine Xs ?_ ?_<;>intro h<;>(try intro h')<;>(try simp[h])<;>(try omega)|refine Xg ?_|omega)
    ·exact Ey.i false rfl rfl (by simp)
    ·refine LJ.e (j+1) ?_
     refine⟨by omega,by omega,by omega,fun b b0 b1 b2=>?_⟩
     by_cases e:b=j
     ·subst e;omega
     ·exact j2 b b0 (by omega) b2
    ·refine LJ.e (j+1) ?_
     refine⟨by omega,by omega,by omega,fun b b0 b1 b2=>?_⟩
     by_cases e:b=j
     ·subst e;simp_all
     ·exact j2 b b0 (by omega) b2
   ·simp[hj]
    (with_reducible repeat' first|refine Xk ?_<;>try simp|refine Xs ?_ ?_<;>intro h<;>(try intro h')<;>(try simp[h])<;>(try omega)|refine Xg ?_|omega)
    refine LJ.e (i+1) ?_
    refine⟨by omega,by omega,by omega,fun a a0 a1=>?_⟩
    by_cases e:a=i
    ·subst e;exact⟨by omega,fun b b0 b1 b2=>j2 b b0 (by omega) b2⟩
    ·exact i2 a a0 (by omega)
 ·simp[hi]
  refine Ey.i true rfl rfl fun _=>⟨⟨hm,fun x hx=>?_⟩,fun a b a0 a1 b0 b1 h=>(i2 a a0 (by omega)).2 b b0 b1 h⟩
  obtain⟨n,n0,n1,rfl⟩:=mem_gt.1 hx
  exact(i2 n n0 (by omega)).1
theorem two_mem{r:List Int}(h0:(0:Int)∈r)(h1:(1:Int)∈r):2≤r.length:=by
 rcases r with _|⟨a,_|⟨b,r⟩⟩
 ·simp at h0
 ·simp at h0 h1;omega
 ·simp
theorem f36m(g:Game)(hg:GameOK g):Wf T 36 [dG g] [] (Ey (fun r:List Int=>.agg [dI r]) fun r=>MVal g r):=by
 have hk:=hg.kinds
 refine Yg F36 ?_
 simp[F36]
 rcases(show g.kinds.length=1∨g.kinds.length=2 by omega)with e|e
 ·refine XLoop.un ?_
  refine XLoopN.u ?_
  simp[e]
  refine Yv (f63m g hg 0 (by omega)) fun r hr=>?_
  simp
  refine XLoopN.u ?_
  simp[e]
  obtain⟨h1,h2,h3,h4⟩:=hr
  refine Ey.i [(r.length:Int)] rfl rfl ⟨⟨by simp[e],fun x hx=>?_⟩,fun a b a0 a1 b0 b1 h=>?_⟩
  ·simp at hx;omega
  ·have e1:a=0:=by omega
   have e2:b=0:=by omega
   rw[e1,e2];exact Int.le_refl _
 ·refine XLoop.un ?_
  refine XLoopN.u ?_
  simp[e]
  refine Yv (f63m g hg 0 (by omega)) fun r hr=>?_
  simp
  refine XLoopN.u ?_
  simp[e]
  refine Yv (f63m g hg 1 (by omega)) fun r2 hr2=>?_
  simp
  refine XLoopN.u ?_
  simp[e]
  obtain⟨h1,h2,h3,h4⟩:=hr
  obtain⟨k1,k2,k3,k4⟩:=hr2
  refine Ey.i [(r.length:Int),(r2.length:Int)] rfl rfl ⟨⟨by simp[e],fun x hx=>?_⟩,fun a b a0 a1 b0 b1 h=>?_⟩
  ·simp at hx;omega
  ·have g0:gt [(r.length:Int),(r2.length:Int)] 0=r.length:=rfl
   have g1:gt [(r.length:Int),(r2.length:Int)] 1=r2.length:=rfl
   rcases(show a=0∨a=1 by omega)with rfl|rfl<;>rcases(show b=0∨b=1 by omega)with rfl|rfl
   ·exact Int.le_refl _
   ·have:=two_mem h3 (h4 1 (by omega) (by omega) h)
    rw[g0,g1];omega
   ·have:=two_mem (k4 0 (by omega) (by omega) h) k3
    rw[g0,g1];omega
   ·exact Int.le_refl _
theorem f13m(g:Game)(hg:GameOK g)(a0 a1 a2 a3 a4 a5:Int)(h:∀ n∈[a0,a1,a2,a3,a4,a5],0≤n∧n<256):Wf T 13 [dG g,dW [a0,a1,a2,a3,a4,a5]] [] (Ey (fun r:List Int=>.agg [dI r]) fun r=>MVal g r):=by
 refine Yg F13 ?_
 simp[F13,dW]
 have c:=f34 g hg a0 a1 a2 a3 a4 a5 h
 simp only[dW,List.map]at c
 refine Yq (c) fun m hm=>?_
 simp
 refine Yq (f35m g hg m hm) fun b hb=>?_
 simp
 (with_reducible repeat' first|refine Xk ?_<;>try simp|refine Xs ?_ ?_<;>intro h<;>(try intro h')<;>(try simp[h])<;>(try omega)|refine Xg ?_|omega)
 ·exact Ey.i m rfl rfl (hb (by assumption))
 ·refine Yq (f36m g hg) fun r hr=>?_
  simp
  exact Ey.i r rfl rfl hr
end Go.Proofs.YtnaefnajkaohgaaGreatDoor
