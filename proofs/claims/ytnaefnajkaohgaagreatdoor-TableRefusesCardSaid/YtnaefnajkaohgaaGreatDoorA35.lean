/- Part 35 of the proof of skewer.skewerlaw15.TableRefuses. -/
import Derived.Test.YtnaefnajkaohgaaGreatDoorA34
set_option linter.all false
namespace Go.Proofs.YtnaefnajkaohgaaGreatDoor
open Go Go.AL Classical
set_option maxRecDepth 10000
set_option maxHeartbeats 4000000
theorem f125e(x:D)(H:Heap):Wf T 125 [.emp,x] H (fun d H'=>d = .emp∧H'=H):=by
 refine Wf.x (fn:=F125) rfl (by simp[F125]) ?_
 simp[F125]
theorem f89e(x:D)(H:Heap):Wf T 89 [.emp,x] H (fun d H'=>d = .emp∧H'=H):=by
 refine Wf.x (fn:=F89) rfl (by simp[F89]) ?_
 simp[F89]
theorem afterL_len{g:Game}:∀ {l:List Stp} {now:List Sta},(afterL g l now).length≤10 ^ l.length*now.length
 | [],now=>by simp[afterL]
 | x::r,now=>by
  rw[afterL]
  refine Nat.le_trans afterL_len ?_
  rw[List.length_cons,Nat.pow_succ,Nat.mul_assoc]
  exact Nat.mul_le_mul_left _ nextL_len
theorem afterL_mem{g:Game}:∀ {l:List Stp} {a b:List Sta},(∀ t,t∈a↔t∈b)→∀ t,t∈afterL g l a↔t∈runL g l b
 | [],a,b,h,t=>h t
 | x::r,a,b,h,t=>by
  rw[afterL,runL]
  refine afterL_mem (fun t=>?_) t
  rw[nextL_mem,List.mem_flatMap,List.mem_flatMap]
  exact⟨fun⟨s,h1,h2⟩=>⟨s,(h s).1 h1,h2⟩,fun⟨s,h1,h2⟩=>⟨s,(h s).2 h1,h2⟩⟩
theorem outs31_mem{g:Game}{p:Pos}{c n:Int}{o:Outc}:o∈outs31 g p c n↔o∈outs1 g p c (gt (gt g.kinds (manK (gt p.cs c))).progs n):=by
 unfold outs31 outs1
 rw[List.mem_filterMap,List.mem_filterMap]
 exact⟨fun⟨s,h1,h2⟩=>⟨s,(afterL_mem (fun _=>Iff.rfl) s).1 h1,h2⟩,fun⟨s,h1,h2⟩=>⟨s,(afterL_mem (fun _=>Iff.rfl) s).2 h1,h2⟩⟩
theorem f85(g:Game)(hg:GameOK g)(p:Pos)(hp:PosOK g p)(c n:Int)(hc:0≤c∧c<p.cs.length)(hs:manS (gt p.cs c)=p.side)(hn:0≤n∧n<(gt g.kinds (manK (gt p.cs c))).progs.length) :
  Wf T 85 [dG g,dP p,.i c,.i n] [] (Ey (fun r:List Outc=>.tup [dN 6 Outc.cells r,.i 0]) fun r=>(∀ o,o∈r↔o∈outs1 g p c (gt (gt g.kinds (manK (gt p.cs c))).progs n))∧r.length≤100000000):=by
 have hsz:=hp.size
 have hst:=startS_ok hg hp hc.1 (by omega) hs
 have hpr:ProgOK g (gt (gt g.kinds (manK (gt p.cs c))).progs n):=(hg.progs _ (gt_mem hst.kind.1 hst.kind.2)).2 _ (gt_mem hn.1 hn.2)
 have hlen:(outs31 g p c n).length≤100000000:=by
  unfold outs31
  refine Nat.le_trans (List.length_filterMap_le ..) (Nat.le_trans afterL_len ?_)
  have:=hpr.len
  have:10 ^ (gt (gt g.kinds (manK (gt p.cs c))).progs n).length≤10 ^ 8:=Nat.pow_le_pow_right (by decide) (by omega)
  simpa using this
 have hmem:∀ o,o∈outs31 g p c n→Small o.p:=fun o ho=>by
  rw[outs31_mem]at ho
  unfold outs1 at ho
  rw[List.mem_filterMap]at ho
  obtain⟨s,h1,h2⟩:=ho
  exact(finS_ok (runL_ok hg hpr.steps (fun t ht=>by rw[List.mem_singleton.1 ht];exact hst) s h1) hp.side.1 hp.side.2 h2).small hg
 refine Wf.x (fn:=F85) rfl (by simp[F85]) ?_
 simp[F85]
 refine XCall.isF rfl rfl (f121 g hg p hp c n hc hs hn) ?_
 rintro d H' ⟨rfl,rfl⟩
 have hm:=fun o=>outs31_mem (g:=g) (p:=p) (c:=c) (n:=n) (o:=o)
 generalize outs31 g p c n=outs at *
 by_cases ho:outs = []
 ·subst ho
  simp
  refine XCall.isF rfl rfl (Wf.sortE (K:=fun d H'=>d = .tup []∧H'=_) (sz:=6) rfl ⟨rfl,rfl⟩) ?_
  rintro d H' ⟨rfl,rfl⟩
  simp
  refine XCall.isF rfl rfl (f125e _ _) ?_
  rintro d H' ⟨rfl,rfl⟩
  simp
  exact Ey.i [] rfl rfl ⟨hm,by simp⟩
 ·have h0:0<outs.length:=List.length_pos_iff.2 ho
  rw[if_neg ho]
  simp
  refine XCall.isF rfl rfl (Wf.sort (K:=fun d H'=>∃ l',l'.Perm outs∧d = .tup []∧H' = [.row 41 0 g.cells,.row 44 0 p.cells,.row 164 0 [.osl 3 (outs.length-1) 6 0 outs.length],.row 113 (outs.length-1) (cl Outc.cells l')]) (fc:=Outc.cells) outs cmpO rfl rfl h0 (by omega) (fun x=>cmpO_zero.2 rfl) cmpO_trans cmpO_nt (fun x hx y hy=>f124 x y (hmem x hx) (hmem y hy)) (gen:=outs.length-1) (t:=113) (by simp) (fun l' hp hw=>⟨l',hp,rfl,by simp⟩)) ?_
  rintro d H' ⟨l',hl',rfl,rfl⟩
  simp
  refine XCall.isF rfl rfl (f125 g p (outs.length-1) l' (fun o ho=>hmem o ((hl'.mem_iff).1 ho)) (by rw[hl'.length_eq];exact h0) (by rw[hl'.length_eq];omega) outs.length hl'.length_eq) ?_
  rintro d H' ⟨junk,rfl,rfl⟩
  simp
  have hne:compactL l'≠[]:=fun h=>ho (by rw[compact_nil]at h;rw[h]at hl';exact hl'.symm.eq_nil)
  refine Ey.i (compactL l') (by revert hne;cases compactL l' with|nil=>intro h;exact absurd rfl h|cons a r=>intro _;rfl) rfl ⟨fun o=>by rw[compact_mem,hl'.mem_iff,hm],?_⟩
  have:=compact_len l'
  have:=hl'.length_eq
  omega
set_option maxRecDepth 10000
set_option maxHeartbeats 4000000
theorem f86(l:List Pos)(h:0<l.length)(h2:l.length<2 ^ 40):Wf T 86 [dPs l] [] (fun d H=>d = .osl 0 1 5 0 l.length∧H = [.row 44 1 (cl Pos.cells l)]):=by
 refine Wf.x (fn:=F86) rfl (by simp[F86]) ?_
 simp[F86]
 refine oA.i (a:=.b false) (by cases l with|nil=>exact absurd h (by simp)|cons a r=>rfl) ?_
 simp
 (with_reducible repeat' first|(first|refine Xy ?_|refine Xz ?_|refine Xu ?_|refine Xv ?_)<;>try simp|(first|refine Xa (fun h h'=>?_) (fun h=>?_)|(first|refine Xd ?_ ?_|refine Xo ?_ ?_|refine Xb ?_ ?_)<;>intro h)<;>(try simp[h])<;>(try (exfalso;omega))|refine Xg ?_|omega)
theorem f86e:Wf T 86 [.emp] [] (Is .emp):=by
 refine Wf.x (fn:=F86) rfl (by simp[F86]) ?_
 simp[F86]
theorem dPs_dN{l:List Pos}(h:l≠[]):dPs l=dN 5 Pos.cells l:=by
 cases l with
 | nil=>exact absurd rfl h
 | cons a r=>rfl
@[simp] theorem closed_dN5(l:List Pos):closed (dN 5 Pos.cells l)=true:=closed_dN (fun a=>by simp) l
theorem sortP_nil:sortP [] = []:=List.length_eq_zero_iff.1 (Nat.le_zero.1 (sortP_len []))
theorem sortP_ne{l:List Pos}(h:l≠[]):sortP l≠[]:=fun e=>by
 obtain⟨a,r,rfl⟩:=List.exists_cons_of_ne_nil h
 have:a∈sortP (a::r):=sortP_mem.2 (by simp)
 rw[e]at this;cases this
theorem f48(l:List Pos)(hs:∀ p∈l,Small p)(hl:l.length<2 ^ 40):Wf T 48 [dN 5 Pos.cells l] [] (Is (dN 5 Pos.cells (sortP l))):=by
 by_cases h:l = []
 ·subst h
  rw[sortP_nil]
  show Wf T 48 [.emp] [] (Is .emp)
  refine Wf.x (fn:=F48) rfl (by simp[F48]) ?_
  simp[F48]
  refine XCall.c rfl rfl (f86e) (by simp) (by simp) ?_
  simp
  refine XCall.isF rfl rfl (Wf.sortE (K:=fun d H'=>d = .tup []∧H'=_) (sz:=5) rfl ⟨rfl,rfl⟩) ?_
  rintro d H' ⟨rfl,rfl⟩
  simp
  refine XCall.isF rfl rfl (f89e _ _) ?_
  rintro d H' ⟨rfl,rfl⟩
  simp
 ·have h0:0<l.length:=List.length_pos_iff.2 h
  rw[← dPs_dN h,← dPs_dN (sortP_ne h)]
  refine Wf.x (fn:=F48) rfl (by simp[F48]) ?_
  simp[F48]
  refine XCall.n rfl rfl (f86 l h0 hl) (by simp) (by simp) ?_
  simp
  refine XCall.isF rfl rfl (Wf.sort (K:=fun d H'=>∃ l',l'.Perm l∧l'.Pairwise (fun x y=>¬ cmpP y x<0)∧d = .tup []∧H' = [.row 44 1 (cl Pos.cells l')]) (fc:=Pos.cells) l cmpP rfl rfl h0 hl cmpP_refl (fun x y z=>cmpP_trans) cmpP_nt (fun x hx y hy=>f88 x y (hs x hx) (hs y hy)) (gen:=1) (t:=44) (by simp) (fun l' hp hw=>⟨l',hp,hw,rfl,by simp⟩)) ?_
  rintro d H' ⟨l',hl',hw,rfl,rfl⟩
  simp
  refine XCall.isF rfl rfl (f89 1 l' (fun o ho=>hs o ((hl'.mem_iff).1 ho)) (by rw[hl'.length_eq];exact h0) (by rw[hl'.length_eq];omega) l.length hl'.length_eq) ?_
  rintro d H' ⟨junk,rfl,rfl⟩
  simp[compact_sortP hl' hw]
set_option maxRecDepth 10000
set_option maxHeartbeats 8000000
theorem upto_succ{k:Int}(h:0≤k):upto (k+1).toNat=upto k.toNat ++ [k]:=by
 rw[show(k+1).toNat=k.toNat+1 by omega]
 simp only[upto,List.range_succ,List.map_append,List.map_cons,List.map_nil]
 rw[Int.toNat_of_nonneg h]
@[simp] theorem upto_0:upto 0 = []:=rfl
def dropsC(p:Pos)(k c:Int):List Pos:=if gt (p.hand p.side) k=0∨gt p.cs c≠0 then []else [drop1 p k c]
def dropsK(p:Pos)(k:Int):List Pos:=(upto p.cs.length).flatMap (dropsC p k)
def dropsM(p:Pos):List Pos:=(upto (p.hand p.side).length).flatMap (dropsK p)
theorem dropsM_mem{g:Game}{p q:Pos}(hp:PosOK g p):q∈dropsM p↔IsDrop g p q:=by
 have hl:=(hp.hand p.side).len
 unfold dropsM dropsK dropsC IsDrop
 simp only[List.mem_flatMap,mem_upto]
 constructor
 ·rintro⟨k,⟨k0,k1⟩,c,⟨c0,c1⟩,h⟩
  split at h
  ·cases h
  ·rename_i hn
   simp only[not_or,Decidable.not_not]at hn
   exact⟨k,c,k0,by omega,c0,c1,hn.1,hn.2,List.mem_singleton.1 h⟩
 ·rintro⟨k,c,k0,k1,c0,c1,h1,h2,rfl⟩
  refine⟨k,⟨k0,by omega⟩,c,⟨c0,c1⟩,?_⟩
  rw[if_neg (by simp[h1,h2])];simp
theorem dropsM_ok{g:Game}(hg:GameOK g){p:Pos}(hp:PosOK g p):(dropsM p).length≤18:=by
 have hz:=hp.size
 have hb:=hg.board.size
 have hk:=hg.kinds
 have hl:=(hp.hand p.side).len
 have:(dropsM p).length≤(upto (p.hand p.side).length).length*9:=flatMap_len fun k _=>by
  have:(dropsK p k).length≤(upto p.cs.length).length*1:=flatMap_len fun c _=>by unfold dropsC;split<;>simp
  simp[upto]at this ⊢;omega
 simp[upto]at this
 omega
theorem f49_0(g:Game)(hg:GameOK g)(p:Pos)(hp:PosOK g p)(e:p.side=0):Wf T 49 [dG g,dP p] [] (Is (dN 5 Pos.cells (sortP (dropsM p)))):=by
 have hz:=hp.size
 have hb:=hg.board.size
 have hk:=hg.kinds
 have hsm:=hp.small hg
 have l0:=hp.h0.len
 have l1:=hp.h1.len
 refine Wf.xz (fn:=F49) (F49.own) (insB 68 [1005] (insB 62 [2039] F49.body)) rfl (by simp[F49]) (by simp only[unfz_ins,unfz_insC];exact unfz_no rfl) ?_
 simp[F49,insB,insC,befK,froK,hasK,headIs,e]
 refine XLoop.e ((0,[]):Int×List Pos) (fun y=>[(3,.ptr 1 0 0),(5,if y.2 = []then .emp else .osl 2 (y.2.length-1) 5 0 y.2.length),(15,dI p.h0),(16,.i p.h0.length),(17,.i y.1)]) (fun y=>[.row 41 0 g.cells,.row 44 0 p.cells]++(if y.2 = []then []else [.row 44 (y.2.length-1) (cl Pos.cells y.2)])) (fun y=>0≤y.1∧y.1≤p.h0.length∧y.2=(upto y.1.toNat).flatMap (dropsK p)∧y.2.length≤9*y.1.toNat) (fun y=>(p.h0.length-y.1).toNat) ?_ ?_
 ·simp
 rintro⟨k,out⟩ ⟨k0,k1,k2,k3⟩
 dsimp only at k0 k1 k2 k3 ⊢
 by_cases hi:k<p.h0.length
 ·by_cases ho:out = []
  ·subst ho
   rw[if_pos rfl,if_pos rfl]
   simp[hi]
   (with_reducible repeat' first|(first|refine Xy ?_|refine Xz ?_|refine Xu ?_|refine Xv ?_)<;>try simp|(first|refine Xa (fun h h'=>?_) (fun h=>?_)|(first|refine Xd ?_ ?_|refine Xo ?_ ?_|refine Xb ?_ ?_)<;>intro h)<;>(try simp[h])<;>(try (exfalso;omega))|refine Xg ?_|omega)
   refine XLoop.e ((0,[]):Int×List Pos) (fun y=>[(3,.ptr 1 0 0),(5,if y.2 = []then .emp else .osl 2 (y.2.length-1) 5 0 y.2.length),(6,.i k),(7,.i (gt p.h0 k)),(15,dI p.h0),(16,.i p.h0.length),(17,.i k),(23,dI p.cs),(24,.i p.cs.length),(25,.i y.1)]) (fun y=>[.row 41 0 g.cells,.row 44 0 p.cells]++(if y.2 = []then []else [.row 44 (y.2.length-1) (cl Pos.cells y.2)])) (fun y=>0≤y.1∧y.1≤p.cs.length∧y.2=(upto k.toNat).flatMap (dropsK p)++(upto y.1.toNat).flatMap (dropsC p k)∧y.2.length≤9*k.toNat+y.1.toNat) (fun y=>(p.cs.length-y.1).toNat) ?_ ?_
   ·exact⟨by omega,by omega,by dsimp only;simp[← k2],by dsimp only;omega⟩
   rintro⟨c,o⟩ ⟨c0,c1,c2,c3⟩
   dsimp only at c0 c1 c2 c3 ⊢
   by_cases hc:c<p.cs.length
   ·have hd:(upto k.toNat).flatMap (dropsK p)++(upto (c+1).toNat).flatMap (dropsC p k)=o++dropsC p k c:=by
     rw[upto_succ c0,List.flatMap_append,← List.append_assoc,← c2];simp
    have hcase:∀ o2,dropsC p k c=o2→o++o2=(upto k.toNat).flatMap (dropsK p)++(upto (c+1).toNat).flatMap (dropsC p k):=fun o2 h=>by rw[hd,h]
    have hD:dropsC p k c=if gt p.h0 k=0∨gt p.cs c≠0 then []else [drop1 p k c]:=by simp[dropsC,Pos.hand,e]
    by_cases ho2:o = []
    ·subst ho2
     rw[if_pos rfl,if_pos rfl]
     simp[hc]
     by_cases hn:gt p.h0 k=0
     ·simp[hn]
      (with_reducible repeat' first|(first|refine Xy ?_|refine Xz ?_|refine Xu ?_|refine Xv ?_)<;>try simp|(first|refine Xa (fun h h'=>?_) (fun h=>?_)|(first|refine Xd ?_ ?_|refine Xo ?_ ?_|refine Xb ?_ ?_)<;>intro h)<;>(try simp[h])<;>(try (exfalso;omega))|refine Xg ?_|omega)
      refine LJ.i (c+1,[]) (by first|rfl|simp[hn]) (by first|rfl|simp[hn]) rfl rfl ?_
      have:=hcase [] (by rw[hD,if_pos (.inl hn)])
      rw[List.append_nil]at this
      exact⟨by dsimp only;omega,by dsimp only;omega,by dsimp only;omega,this,by dsimp only at c3 ⊢;omega⟩
     ·by_cases hv:gt p.cs c=0
      ·simp[hn,hv]
       (with_reducible repeat' first|(first|refine Xy ?_|refine Xz ?_|refine Xu ?_|refine Xv ?_)<;>try simp|(first|refine Xa (fun h h'=>?_) (fun h=>?_)|(first|refine Xd ?_ ?_|refine Xo ?_ ?_|refine Xb ?_ ?_)<;>intro h)<;>(try simp[h])<;>(try (exfalso;omega))|refine Xg ?_|omega)
       refine XCall.n rfl rfl (f91 { p:=p,kind:=0,cur:=0,took:=false } hsm (by dsimp only;omega)) (by simp) (by simp) ?_
       simp
       (with_reducible repeat' first|(first|refine Xy ?_|refine Xz ?_|refine Xu ?_|refine Xv ?_)<;>try simp|(first|refine Xa (fun h h'=>?_) (fun h=>?_)|(first|refine Xd ?_ ?_|refine Xo ?_ ?_|refine Xb ?_ ?_)<;>intro h)<;>(try simp[h])<;>(try (exfalso;omega))|refine Xg ?_|omega)
       refine XTCall.c rfl rfl (f92 (k:=k) (s:=p.side) k0 (by omega) (by omega) (by omega)) (by simp) (by simp) ?_
       simp
       have ha:=hp.h0.at_ k k0 hi
       have q0:=pt_len (l:=p.cs) (n:=c) (v:=1+2*k) c0 hc
       have q1:=pt_len (l:=p.h0) (n:=k) (v:=gt p.h0 k-1) k0 hi
       simp[e,q0,q1]
       (with_reducible repeat' first|(first|refine Xy ?_|refine Xz ?_|refine Xu ?_|refine Xv ?_)<;>try simp[q0,q1]|(first|refine Xa (fun h h'=>?_) (fun h=>?_)|(first|refine Xd ?_ ?_|refine Xo ?_ ?_|refine Xb ?_ ?_)<;>intro h)<;>(try simp[h,q0,q1])<;>(try (exfalso;omega))|refine Xg ?_|omega)
       refine LJ.i (c+1,[drop1 p k c]) (by first|rfl|simp[cl_one,drop1,Pos.hand,Pos.putHand,codeM,e]) (by first|rfl|simp[cl_one,drop1,Pos.hand,Pos.putHand,codeM,e]) rfl rfl ?_
       have:=hcase [drop1 p k c] (by rw[hD,if_neg (by simp[hn,hv])])
       exact⟨by dsimp only;omega,by dsimp only;omega,by dsimp only;omega,this,by dsimp only at c3 ⊢;simp;omega⟩
      ·simp[hn,hv]
       (with_reducible repeat' first|(first|refine Xy ?_|refine Xz ?_|refine Xu ?_|refine Xv ?_)<;>try simp|(first|refine Xa (fun h h'=>?_) (fun h=>?_)|(first|refine Xd ?_ ?_|refine Xo ?_ ?_|refine Xb ?_ ?_)<;>intro h)<;>(try simp[h])<;>(try (exfalso;omega))|refine Xg ?_|omega)
       refine LJ.e (c+1,[]) ?_
       have:=hcase [] (by rw[hD,if_pos (.inr hv)])
       rw[List.append_nil]at this
       exact⟨by dsimp only;omega,by dsimp only;omega,by dsimp only;omega,this,by dsimp only at c3 ⊢;omega⟩
    ·have hlo:o.length-1+1=o.length:=by have:=List.length_pos_iff.2 ho2;omega
     rw[if_neg ho2,if_neg ho2]
     simp[hc]
     by_cases hn:gt p.h0 k=0
     ·simp[hn]
      (with_reducible repeat' first|(first|refine Xy ?_|refine Xz ?_|refine Xu ?_|refine Xv ?_)<;>try simp|(first|refine Xa (fun h h'=>?_) (fun h=>?_)|(first|refine Xd ?_ ?_|refine Xo ?_ ?_|refine Xb ?_ ?_)<;>intro h)<;>(try simp[h])<;>(try (exfalso;omega))|refine Xg ?_|omega)
      refine LJ.i (c+1,o) (by first|rfl|simp[hn,ho2]) (by first|rfl|simp[hn,ho2]) rfl rfl ?_
      have:=hcase [] (by rw[hD,if_pos (.inl hn)])
      rw[List.append_nil]at this
      exact⟨by dsimp only;omega,by dsimp only;omega,by dsimp only;omega,this,by dsimp only at c3 ⊢;omega⟩
     ·by_cases hv:gt p.cs c=0
      ·simp[hn,hv]
       (with_reducible repeat' first|(first|refine Xy ?_|refine Xz ?_|refine Xu ?_|refine Xv ?_)<;>try simp|(first|refine Xa (fun h h'=>?_) (fun h=>?_)|(first|refine Xd ?_ ?_|refine Xo ?_ ?_|refine Xb ?_ ?_)<;>intro h)<;>(try simp[h])<;>(try (exfalso;omega))|refine Xg ?_|omega)
       refine XCall.n rfl rfl (f91 { p:=p,kind:=0,cur:=0,took:=false } hsm (by dsimp only;omega)) (by simp) (by simp) ?_
       simp
       (with_reducible repeat' first|(first|refine Xy ?_|refine Xz ?_|refine Xu ?_|refine Xv ?_)<;>try simp|(first|refine Xa (fun h h'=>?_) (fun h=>?_)|(first|refine Xd ?_ ?_|refine Xo ?_ ?_|refine Xb ?_ ?_)<;>intro h)<;>(try simp[h])<;>(try (exfalso;omega))|refine Xg ?_|omega)
       refine XTCall.c rfl rfl (f92 (k:=k) (s:=p.side) k0 (by omega) (by omega) (by omega)) (by simp) (by simp) ?_
       simp
       have ha:=hp.h0.at_ k k0 hi
       have q0:=pt_len (l:=p.cs) (n:=c) (v:=1+2*k) c0 hc
       have q1:=pt_len (l:=p.h0) (n:=k) (v:=gt p.h0 k-1) k0 hi
       simp[e,q0,q1]
       (with_reducible repeat' first|(first|refine Xy ?_|refine Xz ?_|refine Xu ?_|refine Xv ?_)<;>try simp[q0,q1]|(first|refine Xa (fun h h'=>?_) (fun h=>?_)|(first|refine Xd ?_ ?_|refine Xo ?_ ?_|refine Xb ?_ ?_)<;>intro h)<;>(try simp[h,q0,q1])<;>(try (exfalso;omega))|refine Xg ?_|omega)
       skip
       refine LJ.i (c+1,o ++ [drop1 p k c]) (by first|rfl|simp[ho2,hlo,drop1,Pos.hand,Pos.putHand,codeM,e]) (by first|rfl|simp[ho2,hlo,drop1,Pos.hand,Pos.putHand,codeM,e]) rfl rfl ?_
       have:=hcase [drop1 p k c] (by rw[hD,if_neg (by simp[hn,hv])])
       exact⟨by dsimp only;omega,by dsimp only;omega,by dsimp only;omega,this,by dsimp only at c3 ⊢;simp;omega⟩
      ·simp[hn,hv]
       (with_reducible repeat' first|(first|refine Xy ?_|refine Xz ?_|refine Xu ?_|refine Xv ?_)<;>try simp|(first|refine Xa (fun h h'=>?_) (fun h=>?_)|(first|refine Xd ?_ ?_|refine Xo ?_ ?_|refine Xb ?_ ?_)<;>intro h)<;>(try simp[h])<;>(try (exfalso;omega))|refine Xg ?_|omega)
       refine LJ.i (c+1,o) (by first|rfl|simp[ho2]) (by first|rfl|simp[ho2]) rfl rfl ?_
       have:=hcase [] (by rw[hD,if_pos (.inr hv)])
       rw[List.append_nil]at this
       exact⟨by dsimp only;omega,by dsimp only;omega,by dsimp only;omega,this,by dsimp only at c3 ⊢;omega⟩
   ·have hfin:(upto (k+1).toNat).flatMap (dropsK p)=o:=by
     rw[c2,upto_succ k0,List.flatMap_append,show c.toNat=p.cs.length by omega];simp[dropsK]
    by_cases ho2:o = []
    ·rw[if_pos ho2,if_pos ho2]
     simp[hc]
     (with_reducible repeat' first|(first|refine Xy ?_|refine Xz ?_|refine Xu ?_|refine Xv ?_)<;>try simp|(first|refine Xa (fun h h'=>?_) (fun h=>?_)|(first|refine Xd ?_ ?_|refine Xo ?_ ?_|refine Xb ?_ ?_)<;>intro h)<;>(try simp[h])<;>(try (exfalso;omega))|refine Xg ?_|omega)
     refine LJ.i (k+1,o) (by first|rfl|simp[ho2]) (by first|rfl|simp[ho2]) rfl rfl ?_
     exact⟨by dsimp only;omega,by dsimp only;omega,by dsimp only;omega,hfin.symm,by dsimp only at c3 ⊢;omega⟩
    ·rw[if_neg ho2,if_neg ho2]
     simp[hc]
     (with_reducible repeat' first|(first|refine Xy ?_|refine Xz ?_|refine Xu ?_|refine Xv ?_)<;>try simp|(first|refine Xa (fun h h'=>?_) (fun h=>?_)|(first|refine Xd ?_ ?_|refine Xo ?_ ?_|refine Xb ?_ ?_)<;>intro h)<;>(try simp[h])<;>(try (exfalso;omega))|refine Xg ?_|omega)
     refine LJ.i (k+1,o) (by first|rfl|simp[ho2]) (by first|rfl|simp[ho2]) rfl rfl ?_
     exact⟨by dsimp only;omega,by dsimp only;omega,by dsimp only;omega,hfin.symm,by dsimp only at c3 ⊢;omega⟩
  ·rw[if_neg ho,if_neg ho]
   simp[hi]
   (with_reducible repeat' first|(first|refine Xy ?_|refine Xz ?_|refine Xu ?_|refine Xv ?_)<;>try simp|(first|refine Xa (fun h h'=>?_) (fun h=>?_)|(first|refine Xd ?_ ?_|refine Xo ?_ ?_|refine Xb ?_ ?_)<;>intro h)<;>(try simp[h])<;>(try (exfalso;omega))|refine Xg ?_|omega)
   refine XLoop.e ((0,out):Int×List Pos) (fun y=>[(3,.ptr 1 0 0),(5,.osl 2 (y.2.length-1) 5 0 y.2.length),(6,.i k),(7,.i (gt p.h0 k)),(15,dI p.h0),(16,.i p.h0.length),(17,.i k),(23,dI p.cs),(24,.i p.cs.length),(25,.i y.1)]) (fun y=>[.row 41 0 g.cells,.row 44 0 p.cells,.row 44 (y.2.length-1) (cl Pos.cells y.2)]) (fun y=>0≤y.1∧y.1≤p.cs.length∧y.2=(upto k.toNat).flatMap (dropsK p)++(upto y.1.toNat).flatMap (dropsC p k)∧y.2≠[]∧y.2.length≤9*k.toNat+y.1.toNat) (fun y=>(p.cs.length-y.1).toNat) ?_ ?_
   ·exact⟨by omega,by omega,by dsimp only;rw[k2];simp,ho,by dsimp only;omega⟩
   rintro⟨c,o⟩ ⟨c0,c1,c2,c4,c3⟩
   dsimp only at c0 c1 c2 c3 ⊢
   by_cases hc:c<p.cs.length
   ·have hd:(upto k.toNat).flatMap (dropsK p)++(upto (c+1).toNat).flatMap (dropsC p k)=o++dropsC p k c:=by
     rw[upto_succ c0,List.flatMap_append,← List.append_assoc,← c2];simp
    have hcase:∀ o2,dropsC p k c=o2→o++o2=(upto k.toNat).flatMap (dropsK p)++(upto (c+1).toNat).flatMap (dropsC p k):=fun o2 h=>by rw[hd,h]
    have hD:dropsC p k c=if gt p.h0 k=0∨gt p.cs c≠0 then []else [drop1 p k c]:=by simp[dropsC,Pos.hand,e]
    have ho2:o≠[]:=c4
    have hlo:o.length-1+1=o.length:=by have:=List.length_pos_iff.2 ho2;omega
    simp[hc]
    by_cases hn:gt p.h0 k=0
    ·simp[hn]
     (with_reducible repeat' first|(first|refine Xy ?_|refine Xz ?_|refine Xu ?_|refine Xv ?_)<;>try simp|(first|refine Xa (fun h h'=>?_) (fun h=>?_)|(first|refine Xd ?_ ?_|refine Xo ?_ ?_|refine Xb ?_ ?_)<;>intro h)<;>(try simp[h])<;>(try (exfalso;omega))|refine Xg ?_|omega)
     refine LJ.i (c+1,o) (by first|rfl|simp[hn,ho2]) (by first|rfl|simp[hn,ho2]) rfl rfl ?_
     have:=hcase [] (by rw[hD,if_pos (.inl hn)])
     rw[List.append_nil]at this
     exact⟨by dsimp only;omega,by dsimp only;omega,by dsimp only;omega,this,c4,by dsimp only at c3 ⊢;omega⟩
    ·by_cases hv:gt p.cs c=0
     ·simp[hn,hv]
      (with_reducible repeat' first|(first|refine Xy ?_|refine Xz ?_|refine Xu ?_|refine Xv ?_)<;>try simp|(first|refine Xa (fun h h'=>?_) (fun h=>?_)|(first|refine Xd ?_ ?_|refine Xo ?_ ?_|refine Xb ?_ ?_)<;>intro h)<;>(try simp[h])<;>(try (exfalso;omega))|refine Xg ?_|omega)
      refine XCall.n rfl rfl (f91 { p:=p,kind:=0,cur:=0,took:=false } hsm (by dsimp only;omega)) (by simp) (by simp) ?_
      simp
      (with_reducible repeat' first|(first|refine Xy ?_|refine Xz ?_|refine Xu ?_|refine Xv ?_)<;>try simp|(first|refine Xa (fun h h'=>?_) (fun h=>?_)|(first|refine Xd ?_ ?_|refine Xo ?_ ?_|refine Xb ?_ ?_)<;>intro h)<;>(try simp[h])<;>(try (exfalso;omega))|refine Xg ?_|omega)
      refine XTCall.c rfl rfl (f92 (k:=k) (s:=p.side) k0 (by omega) (by omega) (by omega)) (by simp) (by simp) ?_
      simp
      have ha:=hp.h0.at_ k k0 hi
      have q0:=pt_len (l:=p.cs) (n:=c) (v:=1+2*k) c0 hc
      have q1:=pt_len (l:=p.h0) (n:=k) (v:=gt p.h0 k-1) k0 hi
      simp[e,q0,q1]
      (with_reducible repeat' first|(first|refine Xy ?_|refine Xz ?_|refine Xu ?_|refine Xv ?_)<;>try simp[q0,q1]|(first|refine Xa (fun h h'=>?_) (fun h=>?_)|(first|refine Xd ?_ ?_|refine Xo ?_ ?_|refine Xb ?_ ?_)<;>intro h)<;>(try simp[h,q0,q1])<;>(try (exfalso;omega))|refine Xg ?_|omega)
      skip
      refine LJ.i (c+1,o ++ [drop1 p k c]) (by first|rfl|simp[ho2,hlo,drop1,Pos.hand,Pos.putHand,codeM,e]) (by first|rfl|simp[ho2,hlo,drop1,Pos.hand,Pos.putHand,codeM,e]) rfl rfl ?_
      have:=hcase [drop1 p k c] (by rw[hD,if_neg (by simp[hn,hv])])
      exact⟨by dsimp only;omega,by dsimp only;omega,by dsimp only;omega,this,by simp,by dsimp only at c3 ⊢;simp;omega⟩
     ·simp[hn,hv]
      (with_reducible repeat' first|(first|refine Xy ?_|refine Xz ?_|refine Xu ?_|refine Xv ?_)<;>try simp|(first|refine Xa (fun h h'=>?_) (fun h=>?_)|(first|refine Xd ?_ ?_|refine Xo ?_ ?_|refine Xb ?_ ?_)<;>intro h)<;>(try simp[h])<;>(try (exfalso;omega))|refine Xg ?_|omega)
      refine LJ.i (c+1,o) (by first|rfl|simp[ho2]) (by first|rfl|simp[ho2]) rfl rfl ?_
      have:=hcase [] (by rw[hD,if_pos (.inr hv)])
      rw[List.append_nil]at this
      exact⟨by dsimp only;omega,by dsimp only;omega,by dsimp only;omega,this,c4,by dsimp only at c3 ⊢;omega⟩
   ·have hfin:(upto (k+1).toNat).flatMap (dropsK p)=o:=by
     rw[c2,upto_succ k0,List.flatMap_append,show c.toNat=p.cs.length by omega];simp[dropsK]
    have ho2:o≠[]:=c4
    simp[hc]
    (with_reducible repeat' first|(first|refine Xy ?_|refine Xz ?_|refine Xu ?_|refine Xv ?_)<;>try simp|(first|refine Xa (fun h h'=>?_) (fun h=>?_)|(first|refine Xd ?_ ?_|refine Xo ?_ ?_|refine Xb ?_ ?_)<;>intro h)<;>(try simp[h])<;>(try (exfalso;omega))|refine Xg ?_|omega)
    refine LJ.i (k+1,o) (by first|rfl|simp[ho2]) (by first|rfl|simp[ho2]) rfl rfl ?_
    exact⟨by dsimp only;omega,by dsimp only;omega,by dsimp only;omega,hfin.symm,by dsimp only at c3 ⊢;omega⟩
 ·have hfin:out=dropsM p:=by rw[k2,dropsM,show k.toNat=(p.hand p.side).length by simp[Pos.hand,e];omega]
  have hsmall:∀ q∈out,Small q:=fun q hq=>by
   rw[hfin,dropsM_mem hp]at hq
   exact(drop_ok hp hq).small hg
  have hl18:=dropsM_ok hg hp
  rw[← hfin]at hl18 ⊢
  by_cases ho:out = []
  ·rw[if_pos ho,if_pos ho]
   simp[hi]
   refine XCall.c rfl rfl (f48 [] (by simp) (by simp)) rfl (by simp) ?_
   simp[ho]
  ·rw[if_neg ho,if_neg ho]
   simp[hi]
   refine XCall.c (x:=dN 5 Pos.cells (sortP out)) rfl rfl (by rw[dPs_dN ho];exact f48 out hsmall (by omega)) (by simp) (by simp) ?_
   simp
theorem f49_1(g:Game)(hg:GameOK g)(p:Pos)(hp:PosOK g p)(e:p.side=1):Wf T 49 [dG g,dP p] [] (Is (dN 5 Pos.cells (sortP (dropsM p)))):=by
 have hz:=hp.size
 have hb:=hg.board.size
 have hk:=hg.kinds
 have hsm:=hp.small hg
 have l0:=hp.h0.len
 have l1:=hp.h1.len
 refine Wf.xz (fn:=F49) (F49.own) (insB 68 [1005] (insB 62 [2039] F49.body)) rfl (by simp[F49]) (by simp only[unfz_ins,unfz_insC];exact unfz_no rfl) ?_
 simp[F49,insB,insC,befK,froK,hasK,headIs,e]
 refine XLoop.e ((0,[]):Int×List Pos) (fun y=>[(3,.ptr 1 0 0),(5,if y.2 = []then .emp else .osl 2 (y.2.length-1) 5 0 y.2.length),(15,dI p.h1),(16,.i p.h1.length),(17,.i y.1)]) (fun y=>[.row 41 0 g.cells,.row 44 0 p.cells]++(if y.2 = []then []else [.row 44 (y.2.length-1) (cl Pos.cells y.2)])) (fun y=>0≤y.1∧y.1≤p.h1.length∧y.2=(upto y.1.toNat).flatMap (dropsK p)∧y.2.length≤9*y.1.toNat) (fun y=>(p.h1.length-y.1).toNat) ?_ ?_
 ·simp
 rintro⟨k,out⟩ ⟨k0,k1,k2,k3⟩
 dsimp only at k0 k1 k2 k3 ⊢
 by_cases hi:k<p.h1.length
 ·by_cases ho:out = []
  ·subst ho
   rw[if_pos rfl,if_pos rfl]
   simp[hi]
   (with_reducible repeat' first|(first|refine Xy ?_|refine Xz ?_|refine Xu ?_|refine Xv ?_)<;>try simp|(first|refine Xa (fun h h'=>?_) (fun h=>?_)|(first|refine Xd ?_ ?_|refine Xo ?_ ?_|refine Xb ?_ ?_)<;>intro h)<;>(try simp[h])<;>(try (exfalso;omega))|refine Xg ?_|omega)
   refine XLoop.e ((0,[]):Int×List Pos) (fun y=>[(3,.ptr 1 0 0),(5,if y.2 = []then .emp else .osl 2 (y.2.length-1) 5 0 y.2.length),(6,.i k),(7,.i (gt p.h1 k)),(15,dI p.h1),(16,.i p.h1.length),(17,.i k),(23,dI p.cs),(24,.i p.cs.length),(25,.i y.1)]) (fun y=>[.row 41 0 g.cells,.row 44 0 p.cells]++(if y.2 = []then []else [.row 44 (y.2.length-1) (cl Pos.cells y.2)])) (fun y=>0≤y.1∧y.1≤p.cs.length∧y.2=(upto k.toNat).flatMap (dropsK p)++(upto y.1.toNat).flatMap (dropsC p k)∧y.2.length≤9*k.toNat+y.1.toNat) (fun y=>(p.cs.length-y.1).toNat) ?_ ?_
   ·exact⟨by omega,by omega,by dsimp only;simp[← k2],by dsimp only;omega⟩
   rintro⟨c,o⟩ ⟨c0,c1,c2,c3⟩
   dsimp only at c0 c1 c2 c3 ⊢
   by_cases hc:c<p.cs.length
   ·have hd:(upto k.toNat).flatMap (dropsK p)++(upto (c+1).toNat).flatMap (dropsC p k)=o++dropsC p k c:=by
     rw[upto_succ c0,List.flatMap_append,← List.append_assoc,← c2];simp
    have hcase:∀ o2,dropsC p k c=o2→o++o2=(upto k.toNat).flatMap (dropsK p)++(upto (c+1).toNat).flatMap (dropsC p k):=fun o2 h=>by rw[hd,h]
    have hD:dropsC p k c=if gt p.h1 k=0∨gt p.cs c≠0 then []else [drop1 p k c]:=by simp[dropsC,Pos.hand,e]
    by_cases ho2:o = []
    ·subst ho2
     rw[if_pos rfl,if_pos rfl]
     simp[hc]
     by_cases hn:gt p.h1 k=0
     ·simp[hn]
      (with_reducible repeat' first|(first|refine Xy ?_|refine Xz ?_|refine Xu ?_|refine Xv ?_)<;>try simp|(first|refine Xa (fun h h'=>?_) (fun h=>?_)|(first|refine Xd ?_ ?_|refine Xo ?_ ?_|refine Xb ?_ ?_)<;>intro h)<;>(try simp[h])<;>(try (exfalso;omega))|refine Xg ?_|omega)
      refine LJ.i (c+1,[]) (by first|rfl|simp[hn]) (by first|rfl|simp[hn]) rfl rfl ?_
      have:=hcase [] (by rw[hD,if_pos (.inl hn)])
      rw[List.append_nil]at this
      exact⟨by dsimp only;omega,by dsimp only;omega,by dsimp only;omega,this,by dsimp only at c3 ⊢;omega⟩
     ·by_cases hv:gt p.cs c=0
      ·simp[hn,hv]
       (with_reducible repeat' first|(first|refine Xy ?_|refine Xz ?_|refine Xu ?_|refine Xv ?_)<;>try simp|(first|refine Xa (fun h h'=>?_) (fun h=>?_)|(first|refine Xd ?_ ?_|refine Xo ?_ ?_|refine Xb ?_ ?_)<;>intro h)<;>(try simp[h])<;>(try (exfalso;omega))|refine Xg ?_|omega)
       refine XCall.n rfl rfl (f91 { p:=p,kind:=0,cur:=0,took:=false } hsm (by dsimp only;omega)) (by simp) (by simp) ?_
       simp
       (with_reducible repeat' first|(first|refine Xy ?_|refine Xz ?_|refine Xu ?_|refine Xv ?_)<;>try simp|(first|refine Xa (fun h h'=>?_) (fun h=>?_)|(first|refine Xd ?_ ?_|refine Xo ?_ ?_|refine Xb ?_ ?_)<;>intro h)<;>(try simp[h])<;>(try (exfalso;omega))|refine Xg ?_|omega)
       refine XTCall.c rfl rfl (f92 (k:=k) (s:=p.side) k0 (by omega) (by omega) (by omega)) (by simp) (by simp) ?_
       simp
       have ha:=hp.h1.at_ k k0 hi
       have q0:=pt_len (l:=p.cs) (n:=c) (v:=1+2*k+1) c0 hc
       have q1:=pt_len (l:=p.h1) (n:=k) (v:=gt p.h1 k-1) k0 hi
       simp[e,q0,q1]
       (with_reducible repeat' first|(first|refine Xy ?_|refine Xz ?_|refine Xu ?_|refine Xv ?_)<;>try simp[q0,q1]|(first|refine Xa (fun h h'=>?_) (fun h=>?_)|(first|refine Xd ?_ ?_|refine Xo ?_ ?_|refine Xb ?_ ?_)<;>intro h)<;>(try simp[h,q0,q1])<;>(try (exfalso;omega))|refine Xg ?_|omega)
       refine LJ.i (c+1,[drop1 p k c]) (by first|rfl|simp[cl_one,drop1,Pos.hand,Pos.putHand,codeM,e]) (by first|rfl|simp[cl_one,drop1,Pos.hand,Pos.putHand,codeM,e]) rfl rfl ?_
       have:=hcase [drop1 p k c] (by rw[hD,if_neg (by simp[hn,hv])])
       exact⟨by dsimp only;omega,by dsimp only;omega,by dsimp only;omega,this,by dsimp only at c3 ⊢;simp;omega⟩
      ·simp[hn,hv]
       (with_reducible repeat' first|(first|refine Xy ?_|refine Xz ?_|refine Xu ?_|refine Xv ?_)<;>try simp|(first|refine Xa (fun h h'=>?_) (fun h=>?_)|(first|refine Xd ?_ ?_|refine Xo ?_ ?_|refine Xb ?_ ?_)<;>intro h)<;>(try simp[h])<;>(try (exfalso;omega))|refine Xg ?_|omega)
       refine LJ.e (c+1,[]) ?_
       have:=hcase [] (by rw[hD,if_pos (.inr hv)])
       rw[List.append_nil]at this
       exact⟨by dsimp only;omega,by dsimp only;omega,by dsimp only;omega,this,by dsimp only at c3 ⊢;omega⟩
    ·have hlo:o.length-1+1=o.length:=by have:=List.length_pos_iff.2 ho2;omega
     rw[if_neg ho2,if_neg ho2]
     simp[hc]
     by_cases hn:gt p.h1 k=0
     ·simp[hn]
      (with_reducible repeat' first|(first|refine Xy ?_|refine Xz ?_|refine Xu ?_|refine Xv ?_)<;>try simp|(first|refine Xa (fun h h'=>?_) (fun h=>?_)|(first|refine Xd ?_ ?_|refine Xo ?_ ?_|refine Xb ?_ ?_)<;>intro h)<;>(try simp[h])<;>(try (exfalso;omega))|refine Xg ?_|omega)
      refine LJ.i (c+1,o) (by first|rfl|simp[hn,ho2]) (by first|rfl|simp[hn,ho2]) rfl rfl ?_
      have:=hcase [] (by rw[hD,if_pos (.inl hn)])
      rw[List.append_nil]at this
      exact⟨by dsimp only;omega,by dsimp only;omega,by dsimp only;omega,this,by dsimp only at c3 ⊢;omega⟩
     ·by_cases hv:gt p.cs c=0
      ·simp[hn,hv]
       (with_reducible repeat' first|(first|refine Xy ?_|refine Xz ?_|refine Xu ?_|refine Xv ?_)<;>try simp|(first|refine Xa (fun h h'=>?_) (fun h=>?_)|(first|refine Xd ?_ ?_|refine Xo ?_ ?_|refine Xb ?_ ?_)<;>intro h)<;>(try simp[h])<;>(try (exfalso;omega))|refine Xg ?_|omega)
       refine XCall.n rfl rfl (f91 { p:=p,kind:=0,cur:=0,took:=false } hsm (by dsimp only;omega)) (by simp) (by simp) ?_
       simp
       (with_reducible repeat' first|(first|refine Xy ?_|refine Xz ?_|refine Xu ?_|refine Xv ?_)<;>try simp|(first|refine Xa (fun h h'=>?_) (fun h=>?_)|(first|refine Xd ?_ ?_|refine Xo ?_ ?_|refine Xb ?_ ?_)<;>intro h)<;>(try simp[h])<;>(try (exfalso;omega))|refine Xg ?_|omega)
       refine XTCall.c rfl rfl (f92 (k:=k) (s:=p.side) k0 (by omega) (by omega) (by omega)) (by simp) (by simp) ?_
       simp
       have ha:=hp.h1.at_ k k0 hi
       have q0:=pt_len (l:=p.cs) (n:=c) (v:=1+2*k+1) c0 hc
       have q1:=pt_len (l:=p.h1) (n:=k) (v:=gt p.h1 k-1) k0 hi
       simp[e,q0,q1]
       (with_reducible repeat' first|(first|refine Xy ?_|refine Xz ?_|refine Xu ?_|refine Xv ?_)<;>try simp[q0,q1]|(first|refine Xa (fun h h'=>?_) (fun h=>?_)|(first|refine Xd ?_ ?_|refine Xo ?_ ?_|refine Xb ?_ ?_)<;>intro h)<;>(try simp[h,q0,q1])<;>(try (exfalso;omega))|refine Xg ?_|omega)
       skip
       refine LJ.i (c+1,o ++ [drop1 p k c]) (by first|rfl|simp[ho2,hlo,drop1,Pos.hand,Pos.putHand,codeM,e]) (by first|rfl|simp[ho2,hlo,drop1,Pos.hand,Pos.putHand,codeM,e]) rfl rfl ?_
       have:=hcase [drop1 p k c] (by rw[hD,if_neg (by simp[hn,hv])])
       exact⟨by dsimp only;omega,by dsimp only;omega,by dsimp only;omega,this,by dsimp only at c3 ⊢;simp;omega⟩
      ·simp[hn,hv]
       (with_reducible repeat' first|(first|refine Xy ?_|refine Xz ?_|refine Xu ?_|refine Xv ?_)<;>try simp|(first|refine Xa (fun h h'=>?_) (fun h=>?_)|(first|refine Xd ?_ ?_|refine Xo ?_ ?_|refine Xb ?_ ?_)<;>intro h)<;>(try simp[h])<;>(try (exfalso;omega))|refine Xg ?_|omega)
       refine LJ.i (c+1,o) (by first|rfl|simp[ho2]) (by first|rfl|simp[ho2]) rfl rfl ?_
       have:=hcase [] (by rw[hD,if_pos (.inr hv)])
       rw[List.append_nil]at this
       exact⟨by dsimp only;omega,by dsimp only;omega,by dsimp only;omega,this,by dsimp only at c3 ⊢;omega⟩
   ·have hfin:(upto (k+1).toNat).flatMap (dropsK p)=o:=by
     rw[c2,upto_succ k0,List.flatMap_append,show c.toNat=p.cs.length by omega];simp[dropsK]
    by_cases ho2:o = []
    ·rw[if_pos ho2,if_pos ho2]
     simp[hc]
     (with_reducible repeat' first|(first|refine Xy ?_|refine Xz ?_|refine Xu ?_|refine Xv ?_)<;>try simp|(first|refine Xa (fun h h'=>?_) (fun h=>?_)|(first|refine Xd ?_ ?_|refine Xo ?_ ?_|refine Xb ?_ ?_)<;>intro h)<;>(try simp[h])<;>(try (exfalso;omega))|refine Xg ?_|omega)
     refine LJ.i (k+1,o) (by first|rfl|simp[ho2]) (by first|rfl|simp[ho2]) rfl rfl ?_
     exact⟨by dsimp only;omega,by dsimp only;omega,by dsimp only;omega,hfin.symm,by dsimp only at c3 ⊢;omega⟩
    ·rw[if_neg ho2,if_neg ho2]
     simp[hc]
     (with_reducible repeat' first|(first|refine Xy ?_|refine Xz ?_|refine Xu ?_|refine Xv ?_)<;>try simp|(first|refine Xa (fun h h'=>?_) (fun h=>?_)|(first|refine Xd ?_ ?_|refine Xo ?_ ?_|refine Xb ?_ ?_)<;>intro h)<;>(try simp[h])<;>(try (exfalso;omega))|refine Xg ?_|omega)
     refine LJ.i (k+1,o) (by first|rfl|simp[ho2]) (by first|rfl|simp[ho2]) rfl rfl ?_
     exact⟨by dsimp only;omega,by dsimp only;omega,by dsimp only;omega,hfin.symm,by dsimp only at c3 ⊢;omega⟩
  ·rw[if_neg ho,if_neg ho]
   simp[hi]
   (with_reducible repeat' first|(first|refine Xy ?_|refine Xz ?_|refine Xu ?_|refine Xv ?_)<;>try simp|(first|refine Xa (fun h h'=>?_) (fun h=>?_)|(first|refine Xd ?_ ?_|refine Xo ?_ ?_|refine Xb ?_ ?_)<;>intro h)<;>(try simp[h])<;>(try (exfalso;omega))|refine Xg ?_|omega)
   refine XLoop.e ((0,out):Int×List Pos) (fun y=>[(3,.ptr 1 0 0),(5,.osl 2 (y.2.length-1) 5 0 y.2.length),(6,.i k),(7,.i (gt p.h1 k)),(15,dI p.h1),(16,.i p.h1.length),(17,.i k),(23,dI p.cs),(24,.i p.cs.length),(25,.i y.1)]) (fun y=>[.row 41 0 g.cells,.row 44 0 p.cells,.row 44 (y.2.length-1) (cl Pos.cells y.2)]) (fun y=>0≤y.1∧y.1≤p.cs.length∧y.2=(upto k.toNat).flatMap (dropsK p)++(upto y.1.toNat).flatMap (dropsC p k)∧y.2≠[]∧y.2.length≤9*k.toNat+y.1.toNat) (fun y=>(p.cs.length-y.1).toNat) ?_ ?_
   ·exact⟨by omega,by omega,by dsimp only;rw[k2];simp,ho,by dsimp only;omega⟩
   rintro⟨c,o⟩ ⟨c0,c1,c2,c4,c3⟩
   dsimp only at c0 c1 c2 c3 ⊢
   by_cases hc:c<p.cs.length
   ·have hd:(upto k.toNat).flatMap (dropsK p)++(upto (c+1).toNat).flatMap (dropsC p k)=o++dropsC p k c:=by
     rw[upto_succ c0,List.flatMap_append,← List.append_assoc,← c2];simp
    have hcase:∀ o2,dropsC p k c=o2→o++o2=(upto k.toNat).flatMap (dropsK p)++(upto (c+1).toNat).flatMap (dropsC p k):=fun o2 h=>by rw[hd,h]
    have hD:dropsC p k c=if gt p.h1 k=0∨gt p.cs c≠0 then []else [drop1 p k c]:=by simp[dropsC,Pos.hand,e]
    have ho2:o≠[]:=c4
    have hlo:o.length-1+1=o.length:=by have:=List.length_pos_iff.2 ho2;omega
    simp[hc]
    by_cases hn:gt p.h1 k=0
    ·simp[hn]
     (with_reducible repeat' first|(first|refine Xy ?_|refine Xz ?_|refine Xu ?_|refine Xv ?_)<;>try simp|(first|refine Xa (fun h h'=>?_) (fun h=>?_)|(first|refine Xd ?_ ?_|refine Xo ?_ ?_|refine Xb ?_ ?_)<;>intro h)<;>(try simp[h])<;>(try (exfalso;omega))|refine Xg ?_|omega)
     refine LJ.i (c+1,o) (by first|rfl|simp[hn,ho2]) (by first|rfl|simp[hn,ho2]) rfl rfl ?_
     have:=hcase [] (by rw[hD,if_pos (.inl hn)])
     rw[List.append_nil]at this
     exact⟨by dsimp only;omega,by dsimp only;omega,by dsimp only;omega,this,c4,by dsimp only at c3 ⊢;omega⟩
    ·by_cases hv:gt p.cs c=0
     ·simp[hn,hv]
      (with_reducible repeat' first|(first|refine Xy ?_|refine Xz ?_|refine Xu ?_|refine Xv ?_)<;>try simp|(first|refine Xa (fun h h'=>?_) (fun h=>?_)|(first|refine Xd ?_ ?_|refine Xo ?_ ?_|refine Xb ?_ ?_)<;>intro h)<;>(try simp[h])<;>(try (exfalso;omega))|refine Xg ?_|omega)
      refine XCall.n rfl rfl (f91 { p:=p,kind:=0,cur:=0,took:=false } hsm (by dsimp only;omega)) (by simp) (by simp) ?_
      simp
      (with_reducible repeat' first|(first|refine Xy ?_|refine Xz ?_|refine Xu ?_|refine Xv ?_)<;>try simp|(first|refine Xa (fun h h'=>?_) (fun h=>?_)|(first|refine Xd ?_ ?_|refine Xo ?_ ?_|refine Xb ?_ ?_)<;>intro h)<;>(try simp[h])<;>(try (exfalso;omega))|refine Xg ?_|omega)
      refine XTCall.c rfl rfl (f92 (k:=k) (s:=p.side) k0 (by omega) (by omega) (by omega)) (by simp) (by simp) ?_
      simp
      have ha:=hp.h1.at_ k k0 hi
      have q0:=pt_len (l:=p.cs) (n:=c) (v:=1+2*k+1) c0 hc
      have q1:=pt_len (l:=p.h1) (n:=k) (v:=gt p.h1 k-1) k0 hi
      simp[e,q0,q1]
      (with_reducible repeat' first|(first|refine Xy ?_|refine Xz ?_|refine Xu ?_|refine Xv ?_)<;>try simp[q0,q1]|(first|refine Xa (fun h h'=>?_) (fun h=>?_)|(first|refine Xd ?_ ?_|refine Xo ?_ ?_|refine Xb ?_ ?_)<;>intro h)<;>(try simp[h,q0,q1])<;>(try (exfalso;omega))|refine Xg ?_|omega)
      skip
      refine LJ.i (c+1,o ++ [drop1 p k c]) (by first|rfl|simp[ho2,hlo,drop1,Pos.hand,Pos.putHand,codeM,e]) (by first|rfl|simp[ho2,hlo,drop1,Pos.hand,Pos.putHand,codeM,e]) rfl rfl ?_
      have:=hcase [drop1 p k c] (by rw[hD,if_neg (by simp[hn,hv])])
      exact⟨by dsimp only;omega,by dsimp only;omega,by dsimp only;omega,this,by simp,by dsimp only at c3 ⊢;simp;omega⟩
     ·simp[hn,hv]
      (with_reducible repeat' first|(first|refine Xy ?_|refine Xz ?_|refine Xu ?_|refine Xv ?_)<;>try simp|(first|refine Xa (fun h h'=>?_) (fun h=>?_)|(first|refine Xd ?_ ?_|refine Xo ?_ ?_|refine Xb ?_ ?_)<;>intro h)<;>(try simp[h])<;>(try (exfalso;omega))|refine Xg ?_|omega)
      refine LJ.i (c+1,o) (by first|rfl|simp[ho2]) (by first|rfl|simp[ho2]) rfl rfl ?_
      have:=hcase [] (by rw[hD,if_pos (.inr hv)])
      rw[List.append_nil]at this
      exact⟨by dsimp only;omega,by dsimp only;omega,by dsimp only;omega,this,c4,by dsimp only at c3 ⊢;omega⟩
   ·have hfin:(upto (k+1).toNat).flatMap (dropsK p)=o:=by
     rw[c2,upto_succ k0,List.flatMap_append,show c.toNat=p.cs.length by omega];simp[dropsK]
    have ho2:o≠[]:=c4
    simp[hc]
    (with_reducible repeat' first|(first|refine Xy ?_|refine Xz ?_|refine Xu ?_|refine Xv ?_)<;>try simp|(first|refine Xa (fun h h'=>?_) (fun h=>?_)|(first|refine Xd ?_ ?_|refine Xo ?_ ?_|refine Xb ?_ ?_)<;>intro h)<;>(try simp[h])<;>(try (exfalso;omega))|refine Xg ?_|omega)
    refine LJ.i (k+1,o) (by first|rfl|simp[ho2]) (by first|rfl|simp[ho2]) rfl rfl ?_
    exact⟨by dsimp only;omega,by dsimp only;omega,by dsimp only;omega,hfin.symm,by dsimp only at c3 ⊢;omega⟩
 ·have hfin:out=dropsM p:=by rw[k2,dropsM,show k.toNat=(p.hand p.side).length by simp[Pos.hand,e];omega]
  have hsmall:∀ q∈out,Small q:=fun q hq=>by
   rw[hfin,dropsM_mem hp]at hq
   exact(drop_ok hp hq).small hg
  have hl18:=dropsM_ok hg hp
  rw[← hfin]at hl18 ⊢
  by_cases ho:out = []
  ·rw[if_pos ho,if_pos ho]
   simp[hi]
   refine XCall.c rfl rfl (f48 [] (by simp) (by simp)) rfl (by simp) ?_
   simp[ho]
  ·rw[if_neg ho,if_neg ho]
   simp[hi]
   refine XCall.c (x:=dN 5 Pos.cells (sortP out)) rfl rfl (by rw[dPs_dN ho];exact f48 out hsmall (by omega)) (by simp) (by simp) ?_
   simp
theorem f49(g:Game)(hg:GameOK g)(p:Pos)(hp:PosOK g p):Wf T 49 [dG g,dP p] [] (Is (dN 5 Pos.cells (sortP (dropsM p)))):=by
 have:=hp.side
 rcases(show p.side=0∨p.side=1 by omega)with e|e
 ·exact f49_0 g hg p hp e
 ·exact f49_1 g hg p hp e
end Go.Proofs.YtnaefnajkaohgaaGreatDoor
namespace Go.AL
open Go
@[simp] theorem simA_yld(n v:Nat):simA n (.yld v)=decide (v<n):=rfl
@[simp] theorem simD_yld(n v:Nat):simD n (.yld v)=decide (v<n):=rfl
@[simp] theorem simA_fptr(n:Nat)(cs:List D):simA n (.fptr cs)=cs.all (simD n):=rfl
@[simp] theorem okOb_dfr(n:Nat):okOb n .dfr=true:=rfl
@[simp] theorem okOb_rcd(n rf:Nat)(e:Env)(st:RSt):okOb n (.rcd rf e st)=e.all fun x=>simA n x.2:=rfl
theorem keepOf_all{n m:Nat}(h:n≤m):keepOf n (List.range' n (m-n))=keepOf m []:=by
 unfold keepOf
 rw[List.map_nil,List.append_nil,← List.map_append,List.range_eq_range',List.range_eq_range']
 congr 1
 have:=List.range'_append (s:=0) (m:=n) (n:=m-n) (step:=1)
 simp only[Nat.one_mul,Nat.zero_add]at this
 rw[this];congr 1;omega
theorem cut_all{n:Nat}{live:List Nat}{env:Env}{H:Heap}{r:Bool}(hlt:n≤H.length)(he:((forget live env).all fun p=>simA n p.2)=true)
  (hr:dedup (((H.take n).map (obRefs n)).flatten.filter (· < H.length))=List.range' n (H.length-n)) (hH:okH H.length H):cut n live { env:=env,H:=H,marks:=[],rnd:=r } = { env:=forget live env,H:=H,marks:=[],rnd:=r }:=by
 by_cases h:H.length≤n
 ·exact cut_none h
 ·unfold cut
  dsimp only
  rw[if_neg h]
  have e1:((forget live env).map fun p=>topRef n p.2).flatten = []:=flatten_nil fun p hp=>topRef_sim (List.all_eq_true.1 he p hp)
  rw[e1,List.filter_nil,List.append_nil,List.nil_append,hr,keepOf_all hlt]
  have e2:=shedH_keepOf (n:=H.length) (H:=H) (G:=[]) rfl hH
  rw[List.append_nil]at e2
  rw[e2]
  congr 1
  conv=>rhs;rw[← List.map_id (forget live env)]
  exact List.map_congr_left fun p hp=>by
   rw[shed_simA (n:=n) (fun u hu=>rho_keepOf (by omega)) (List.all_eq_true.1 he p hp)];rfl
theorem leave_all{n:Nat}{H:Heap}{d:D}(hlt:n≤H.length)(hd:simA n d=true)
  (hr:dedup (((H.take n).map (obRefs n)).flatten.filter (· < H.length))=List.range' n (H.length-n)) (hH:okH H.length H):leave 0 n H d=(d,H):=by
 by_cases h:H.length≤n
 ·exact leave0 h 0
 ·unfold leave
  rw[if_neg h]
  simp only[List.nil_append]
  rw[hr,keepOf_all hlt]
  have e2:=shedH_keepOf (n:=H.length) (H:=H) (G:=[]) rfl hH
  rw[List.append_nil]at e2
  rw[e2,shed_simA (n:=n) (fun u hu=>rho_keepOf (by omega)) hd]
def shYld:Option Nat→D
 | some v'=>.yld v'
 | none=>.any
@[simp] theorem shYld_some(v:Nat):shYld (some v) = .yld v:=rfl
@[simp] theorem shYld_none:shYld none = .any:=rfl
@[simp] theorem shed_yld(ρ:Nat→Option Nat)(H:Heap)(k v:Nat):shed ρ H (k+1) (.yld v)=shYld (ρ v):=by
 rw[shed,if_neg (by simp[closed])]
 unfold shYld;rfl
@[simp] theorem closed_dN6(l:List Outc):closed (dN 6 Outc.cells l)=true:=closed_dN (fun a=>by simp[closedL]) l
end Go.AL
