/- Part 26 of the proof of skewer.skewerlaw15.TableSlices. -/
import Derived.Test.YtnaefnajkaohgaaGreatDoorC25
set_option linter.all false
namespace Go.Proofs.YtnaefnajkaohgaaGreatDoor
open Go Go.AL Classical
set_option maxRecDepth 10000
set_option maxHeartbeats 8000000
theorem tkP_mem{os:List Outc}{q:Pos}:q∈tkP os↔⟨q,true⟩∈os:=by
 unfold tkP
 rw[List.mem_map]
 constructor
 ·rintro⟨⟨p,t⟩,h,rfl⟩
  rw[List.mem_filter]at h
  have:=h.2
  dsimp only at this
  subst this
  exact h.1
 ·intro h
  exact⟨_,List.mem_filter.2 ⟨h,rfl⟩,rfl⟩
theorem mv_tk{g:Game}{p:Pos}(he:¬ ended g p){os:List Outc}(hos:∀ o,o∈os↔o∈outsL g p)(hm:g.must=true)(h:tkP os≠[]):sortP (tkP os)=mvL g p:=by
 refine mvL_eq (sortP_srt _) fun q=>?_
 obtain⟨x,r,e⟩:=List.exists_cons_of_ne_nil h
 have hx:⟨x,true⟩∈outsL g p:=(hos _).1 (tkP_mem.1 (by rw[e];simp))
 rw[sortP_mem,tkP_mem,hos,IsMove,if_pos ⟨hm,_,hx,rfl⟩]
 exact⟨fun h=>⟨not_ended he,h⟩,fun h=>h.2⟩
theorem mv_all{g:Game}{p:Pos}(hp:PosOK g p)(he:¬ ended g p){os:List Outc}(hos:∀ o,o∈os↔o∈outsL g p)(hm:¬ (g.must=true∧tkP os≠[])):sortP (allP os++sortP (dropsM p))=mvL g p:=by
 refine mvL_eq (sortP_srt _) fun q=>?_
 have hn:¬ (g.must=true∧∃ o∈outsL g p,o.took=true):=fun⟨a,o,h,t⟩=>hm ⟨a,fun e=>by
  have:o.p∈tkP os:=tkP_mem.2 ((hos _).2 (by obtain⟨x,y⟩:=o;dsimp only at t;subst t;exact h))
  rw[e]at this;cases this⟩
 rw[sortP_mem,List.mem_append,sortP_mem,dropsM_mem hp,IsMove,if_neg hn]
 have:q∈allP os↔∃ o∈outsL g p,o.p=q:=by
  unfold allP
  rw[List.mem_map]
  exact⟨fun⟨o,h,e⟩=>⟨o,(hos o).1 h,e⟩,fun⟨o,h,e⟩=>⟨o,(hos o).2 h,e⟩⟩
 rw[this]
 exact⟨fun h=>⟨not_ended he,h⟩,fun h=>h.2⟩
theorem f47(g:Game)(p:Pos):Wf T 47 [dG g,dP p] [] (Is (.fn (.func 83) [] [.fptr p.cells,.fptr g.cells])):=by
 refine Yg F47 ?_
 simp[F47]
theorem f26(g:Game)(hg:GameOK g)(p:Pos)(hp:PosOK g p):Wf T 26 [dG g,dP p] [] (Is (dN 5 Pos.cells (mvL g p))):=by
 refine Yz F26 (insC 41 [1040] F26.body) ?_
 simp[F26,insB,insC,befK,froK,hasK,headIs]
 refine Yq (f46 g hg p hp) fun n hn=>?_
 simp
 by_cases he:ended g p
 ·simp[he]
  rw[mvL_ended he];rfl
 ·simp[he]
  (with_reducible repeat' first|refine Xk ?_<;>try simp|refine Xs ?_ ?_<;>intro h<;>(try intro h')<;>(try simp[h])<;>(try omega)|refine Xg ?_|omega)
  refine Yc (f47 g p) ?_
  simp
  refine XRange.r (f:=83) (first:=[]) (cap:=[.fptr p.cells,.fptr g.cells]) rfl rfl rfl rfl ?_
  simp
  refine Wf.mono (f83 g hg p hp) ?_
  rintro _ H' ⟨os,hos,hlen,rfl⟩
  have hal:=allP_len os
  have htl:=tkP_len os
  have hsa:∀ q∈allP os,Small q:=fun q hq=>by
   obtain⟨o,ho,rfl⟩:=List.mem_map.1 hq
   exact(outsL_ok hg hp ((hos o).1 ho)).small hg
  have hst:∀ q∈tkP os,Small q:=fun q hq=>hsa q (List.mem_map.2 ⟨_,tkP_mem.1 hq,rfl⟩)
  have hsd:∀ q∈sortP (dropsM p),Small q:=fun q hq=>by
   rw[sortP_mem,dropsM_mem hp]at hq
   exact(drop_ok hp hq).small hg
  have hd18:(sortP (dropsM p)).length≤18:=Nat.le_trans (sortP_len _) (dropsM_ok hg hp)
  have htk:=mv_tk (p:=p) he hos
  have hall:=mv_all hp he hos
  refine⟨[(7,.ptr 2 0 0),(8,.ptr 3 0 0)],.ready,?_,?_⟩
  ·by_cases h1:os = []
   ·subst h1;rw[hpM_0];simp
   ·by_cases h2:tkP os = []
    ·rw[hpM_1 g p h1 h2];simp
    ·rw[hpM_2 g p h1 h2];simp
  have c49:=f49 g hg p hp
  by_cases h1:os = []
  ·subst h1
   rw[hpM_0]
   cases hmu:g.must
   ·simp only[dG,Game.cells,hmu]at c49
    simp[hmu,hal]
    (with_reducible repeat' first|refine Xk ?_<;>try simp|refine Xs ?_ ?_<;>intro h<;>(try intro h')<;>(try simp[h])<;>(try omega)|refine Xg ?_|omega)
    refine Yt (c49) ?_
    simp
    (with_reducible repeat' first|refine Xk ?_<;>try simp|refine Xs ?_ ?_<;>intro h<;>(try intro h')<;>(try simp[h])<;>(try omega)|refine Xg ?_|omega)
    have hm:=hall (by simp[tkP])
    by_cases hd:sortP (dropsM p) = []
    ·rw[hd]at hm
     simp[hd]
     refine XTCallN.c rfl rfl (f48 [] (by simp) (by simp)) rfl (by simp) ?_
     simp[allP]at hm
     simp[hm]
    ·have hd2:0<(sortP (dropsM p)).length:=List.length_pos_iff.2 hd
     simp[allP]at hm
     have hf:=f48 (sortP (dropsM p)) hsd (by omega)
     rw[← dPs_dN hd,hm]at hf
     simp[hd]
     (with_reducible repeat' first|refine Xk ?_<;>try simp|refine Xs ?_ ?_<;>intro h<;>(try intro h')<;>(try simp[h])<;>(try omega)|refine Xg ?_|omega)
     refine XTCallZ.z (d:=dN 5 Pos.cells (mvL g p)) 5 rfl rfl hf (by simp) (by simp) (by simp[rowsOf]) (by simp) (by simp) ?_
     simp
   ·simp only[dG,Game.cells,hmu]at c49
    simp[hmu,hal]
    (with_reducible repeat' first|refine Xk ?_<;>try simp|refine Xs ?_ ?_<;>intro h<;>(try intro h')<;>(try simp[h])<;>(try omega)|refine Xg ?_|omega)
    refine Yt (c49) ?_
    simp
    (with_reducible repeat' first|refine Xk ?_<;>try simp|refine Xs ?_ ?_<;>intro h<;>(try intro h')<;>(try simp[h])<;>(try omega)|refine Xg ?_|omega)
    have hm:=hall (by simp[tkP])
    by_cases hd:sortP (dropsM p) = []
    ·rw[hd]at hm
     simp[hd]
     refine XTCallN.c rfl rfl (f48 [] (by simp) (by simp)) rfl (by simp) ?_
     simp[allP]at hm
     simp[hm]
    ·have hd2:0<(sortP (dropsM p)).length:=List.length_pos_iff.2 hd
     simp[allP]at hm
     have hf:=f48 (sortP (dropsM p)) hsd (by omega)
     rw[← dPs_dN hd,hm]at hf
     simp[hd]
     (with_reducible repeat' first|refine Xk ?_<;>try simp|refine Xs ?_ ?_<;>intro h<;>(try intro h')<;>(try simp[h])<;>(try omega)|refine Xg ?_|omega)
     refine XTCallZ.z (d:=dN 5 Pos.cells (mvL g p)) 5 rfl rfl hf (by simp) (by simp) (by simp[rowsOf]) (by simp) (by simp) ?_
     simp
  ·by_cases h2:tkP os = []
   ·rw[hpM_1 g p h1 h2]
    cases hmu:g.must
    ·simp only[dG,Game.cells,hmu]at c49
     simp[hmu,hal]
     (with_reducible repeat' first|refine Xk ?_<;>try simp|refine Xs ?_ ?_<;>intro h<;>(try intro h')<;>(try simp[h])<;>(try omega)|refine Xg ?_|omega)
     refine Yt (c49) ?_
     simp
     (with_reducible repeat' first|refine Xk ?_<;>try simp|refine Xs ?_ ?_<;>intro h<;>(try intro h')<;>(try simp[h])<;>(try omega)|refine Xg ?_|omega)
     have hm:=hall (by simp[h2])
     have hL:allP os++sortP (dropsM p)≠[]:=fun e=>h1 (by have:=(List.append_eq_nil_iff.1 e).1;simpa[allP]using this)
     have hf:=f48 (allP os++sortP (dropsM p)) (fun q hq=>(List.mem_append.1 hq).elim (hsa q) (hsd q)) (by simp;omega)
     rw[← dPs_dN hL,hm]at hf
     refine XTCallZ.z (d:=dN 5 Pos.cells (mvL g p)) 4 rfl rfl hf (by simp[hal]) (by simp[hal]) (by simp[rowsOf]) (by simp) (by simp) ?_
     simp
    ·simp only[dG,Game.cells,hmu]at c49
     simp[hmu,hal,h2]
     (with_reducible repeat' first|refine Xk ?_<;>try simp|refine Xs ?_ ?_<;>intro h<;>(try intro h')<;>(try simp[h])<;>(try omega)|refine Xg ?_|omega)
     refine Yt (c49) ?_
     simp
     (with_reducible repeat' first|refine Xk ?_<;>try simp|refine Xs ?_ ?_<;>intro h<;>(try intro h')<;>(try simp[h])<;>(try omega)|refine Xg ?_|omega)
     have hm:=hall (by simp[h2])
     have hL:allP os++sortP (dropsM p)≠[]:=fun e=>h1 (by have:=(List.append_eq_nil_iff.1 e).1;simpa[allP]using this)
     have hf:=f48 (allP os++sortP (dropsM p)) (fun q hq=>(List.mem_append.1 hq).elim (hsa q) (hsd q)) (by simp;omega)
     rw[← dPs_dN hL,hm]at hf
     refine XTCallZ.z (d:=dN 5 Pos.cells (mvL g p)) 4 rfl rfl hf (by simp[hal]) (by simp[hal]) (by simp[rowsOf]) (by simp) (by simp) ?_
     simp
   ·rw[hpM_2 g p h1 h2]
    cases hmu:g.must
    ·simp only[dG,Game.cells,hmu]at c49
     simp[hmu,hal]
     (with_reducible repeat' first|refine Xk ?_<;>try simp|refine Xs ?_ ?_<;>intro h<;>(try intro h')<;>(try simp[h])<;>(try omega)|refine Xg ?_|omega)
     refine Yt (c49) ?_
     simp
     (with_reducible repeat' first|refine Xk ?_<;>try simp|refine Xs ?_ ?_<;>intro h<;>(try intro h')<;>(try simp[h])<;>(try omega)|refine Xg ?_|omega)
     have hm:=hall (by simp[hmu])
     have hL:allP os++sortP (dropsM p)≠[]:=fun e=>h1 (by have:=(List.append_eq_nil_iff.1 e).1;simpa[allP]using this)
     have hf:=f48 (allP os++sortP (dropsM p)) (fun q hq=>(List.mem_append.1 hq).elim (hsa q) (hsd q)) (by simp;omega)
     rw[← dPs_dN hL,hm]at hf
     refine XTCallZ.z (d:=dN 5 Pos.cells (mvL g p)) 4 rfl rfl hf (by simp[hal]) (by simp[hal]) (by simp[rowsOf]) (by simp) (by simp) ?_
     simp
    ·have h3:0<(tkP os).length:=List.length_pos_iff.2 h2
     simp[hmu,hal,h3]
     (with_reducible repeat' first|refine Xk ?_<;>try simp|refine Xs ?_ ?_<;>intro h<;>(try intro h')<;>(try simp[h])<;>(try omega)|refine Xg ?_|omega)
     refine XCall.c (x:=dN 5 Pos.cells (sortP (tkP os))) rfl rfl (by rw[dPs_dN h2];exact f48 (tkP os) hst (by omega)) (by simp) (by simp) ?_
     simp[htk hmu h2]
     (with_reducible repeat' first|refine Xk ?_<;>try simp|refine Xs ?_ ?_<;>intro h<;>(try intro h')<;>(try simp[h])<;>(try omega)|refine Xg ?_|omega)
end Go.Proofs.YtnaefnajkaohgaaGreatDoor
