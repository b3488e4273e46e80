/- Part 40 of the proof of skewer.skewerlaw15.TableSlices. -/
import Derived.Test.YtnaefnajkaohgaaGreatDoorC39
set_option linter.all false
namespace Go.Proofs.YtnaefnajkaohgaaGreatDoor
open Go Go.AL Classical
section
variable{g:Game}{l:List Pos}{nx:List (List Int)}{part:List Int}
end
structure Chn(L:Nat)(v:List Stp)(b:List Bool):Prop where
 vl:v.length=L
 bl:b.length=L
 n:∀ i:Int,0≤i→i<L→gt b i=false→(gt v i).1≠2→0≤(gt v i).2∧(0<(gt v i).2→∃ j:Int,0≤j∧j<L∧gt b j=false∧(gt v j).1≠2∧(gt v j).2=(gt v i).2-1)
theorem wn_ex(v:List Stp)(b:List Bool)(x:List Int):∀ k:Nat,k≤x.length→(wnM v b x k).2 = -1∨∃ j∈x,gt b j=false∧(gt v j).1=1∧(gt v j).2=(wnM v b x k).2
 | 0,_=>.inl rfl
 | k+1,hk=>by
  have ih:=wn_ex v b x k (by omega)
  have hm:gt x (k:Int)∈x:=gt_mem (by omega) (by omega)
  rw[wnM]
  split
  ·rename_i h
   dsimp only
   rcases Int.le_total (wnM v b x k).2 (gt v (gt x (k:Int))).2 with h2|h2
   ·rw[Int.max_eq_right h2];exact .inr ⟨_,hm,h.1,h.2,rfl⟩
   ·rw[Int.max_eq_left h2];exact ih
  ·exact ih
section
variable{g:Game}{l:List Pos}{nx:List (List Int)}{part:List Int}{bu:Int}
theorem dcs_in(o:FOK g l nx part bu){v:List Stp}{b:List Bool}(hb:b.length=l.length){n:Int}:∀ i∈dcs g l nx part v b n,0≤i∧i<b.length:=fun i hi=>by rw[hb];exact o.prt i (dcs_sub hi)
theorem rV_len(o:FOK g l nx part bu){v:List Stp}{b:List Bool}(hv:v.length=l.length)(hb:b.length=l.length){n:Int}:(rV g l nx part v b n).length=l.length:=by
 unfold rV
 rw[ptw_len _ _ _ (by rw[hv,← hb];exact dcs_in o hb),hv]
theorem rB_len(o:FOK g l nx part bu){v:List Stp}{b:List Bool}(hb:b.length=l.length){n:Int}:(rB g l nx part v b n).length=l.length:=by
 unfold rB
 rw[ptw_len _ _ _ (dcs_in o hb),hb]
theorem gt_rV(o:FOK g l nx part bu){v:List Stp}{b:List Bool}(hv:v.length=l.length)(hb:b.length=l.length){n j:Int}(j0:0≤j)(j1:j<l.length):gt (rV g l nx part v b n) j=if j∈dcs g l nx part v b n then en1 g l nx v b n j else gt v j:=
 gt_ptw _ _ _ (by rw[hv,← hb];exact dcs_in o hb) j j0 (by omega)
theorem gt_rB(o:FOK g l nx part bu){v:List Stp}{b:List Bool}(hb:b.length=l.length){n j:Int}(j0:0≤j)(j1:j<l.length):gt (rB g l nx part v b n) j=if j∈dcs g l nx part v b n then false else gt b j:=
 gt_ptw _ _ _ (dcs_in o hb) j j0 (by omega)
theorem rnds_out(o:FOK g l nx part bu)(bu':Int):∀ (f:Nat) (n:Int) (v:List Stp) (b:List Bool) (t:Int),v.length=l.length→b.length=l.length →
  ((rnds g l nx part bu' f n v b t).2.1.length=l.length∧(rnds g l nx part bu' f n v b t).2.2.length=l.length)∧∀ j:Int,0≤j→j<l.length→j ∉ part→gt (rnds g l nx part bu' f n v b t).2.1 j=gt v j∧gt (rnds g l nx part bu' f n v b t).2.2 j=gt b j
 | 0,n,v,b,t,hv,hb=>⟨⟨hv,hb⟩,fun _ _ _ _=>⟨rfl,rfl⟩⟩
 | f+1,n,v,b,t,hv,hb=>by
  have h1:=rV_len o hv hb (n:=n)
  have h2:=rB_len o (v:=v) hb (n:=n)
  have h3:∀ j:Int,0≤j→j<l.length→j ∉ part→gt (rV g l nx part v b n) j=gt v j∧gt (rB g l nx part v b n) j=gt b j:=fun j j0 j1 hj=>by
   rw[gt_rV o hv hb j0 j1,gt_rB o hb j0 j1,if_neg fun hm=>hj (dcs_sub hm),if_neg fun hm=>hj (dcs_sub hm)]
   exact⟨rfl,rfl⟩
  rw[rnds]
  split
  ·obtain⟨a,c⟩:=rnds_out o bu' f (n+1) _ _ (t+(lds b part bu' part.length).1) h1 h2
   refine⟨a,fun j j0 j1 hj=>?_⟩
   rw[(c j j0 j1 hj).1,(c j j0 j1 hj).2]
   exact h3 j j0 j1 hj
  ·exact⟨⟨h1,h2⟩,h3⟩
theorem fin2_out(o:FOK g l nx part bu){v:List Stp}{b:List Bool}(hv:v.length=l.length)(hb:b.length=l.length):((fin2 part v b).1.length=l.length∧(fin2 part v b).2.length=l.length) ∧
  ∀ j:Int,0≤j→j<l.length→gt (fin2 part v b).1 j=(if j∈part∧gt b j=true then(2,0)else gt v j)∧gt (fin2 part v b).2 j=(if j∈part then false else gt b j):=by
 have hi:∀ i∈part.filter (fun i=>gt b i),0≤i∧i<l.length:=fun i hi=>o.prt i (List.mem_filter.1 hi).1
 unfold fin2
 dsimp only
 refine⟨⟨by rw[ptw_len _ _ _ (by rw[hv];exact hi),hv],by rw[ptw_len _ _ _ (by rw[hb];exact hi),hb]⟩,fun j j0 j1=>?_⟩
 rw[gt_ptw _ _ _ (by rw[hv];exact hi) j j0 (by omega),gt_ptw _ _ _ (by rw[hb];exact hi) j j0 (by omega)]
 simp only[List.mem_filter]
 refine⟨trivial,?_⟩
 by_cases h1:j∈part
 ·by_cases h2:gt b j=true
  ·simp[h1,h2]
  ·simp[h1,h2]
 ·simp[h1]
theorem mark_out(o:FOK g l nx part bu){b:List Bool}(hb:b.length=l.length):(ptw b (fun _=>true) part).length=l.length∧∀ j:Int,0≤j→j<l.length→gt (ptw b (fun _=>true) part) j=if j∈part then true else gt b j:=by
 have hi:∀ i∈part,0≤i∧i<b.length:=fun i hi=>by rw[hb];exact o.prt i hi
 exact⟨by rw[ptw_len _ _ _ hi,hb],fun j j0 j1=>gt_ptw _ _ _ hi j j0 (by omega)⟩
theorem fillR_out(o:FOK g l nx part bu)(bu':Int){v:List Stp}{b:List Bool}(hv:v.length=l.length)(hb:b.length=l.length):((fillR g l nx part bu' v b).2.1.length=l.length∧(fillR g l nx part bu' v b).2.2.length=l.length) ∧
  ∀ j:Int,0≤j→j<l.length→j ∉ part→gt (fillR g l nx part bu' v b).2.1 j=gt v j∧gt (fillR g l nx part bu' v b).2.2 j=gt b j:=by
 obtain⟨m1,m2⟩:=mark_out o hb
 obtain⟨⟨r1,r2⟩,r3⟩:=rnds_out o bu' 4001 0 v (ptw b (fun _=>true) part) 0 hv m1
 obtain⟨f1,f2⟩:=fin2_out o r1 r2
 unfold fillR
 dsimp only
 refine⟨f1,fun j j0 j1 hj=>?_⟩
 obtain⟨a1,a2⟩:=f2 j j0 j1
 obtain⟨c1,c2⟩:=r3 j j0 j1 hj
 rw[a1,a2,if_neg (fun h=>hj h.1),if_neg hj,c1,c2,m2 j j0 j1,if_neg hj]
 exact⟨rfl,rfl⟩
end
noncomputable def mkR(g:Game)(l:List Pos)(nx:List (List Int))(bu:Int):List (List Int)→List Stp→List Bool→Int→Int×List Stp×List Bool
 | [],v,b,t=>(t,v,b)
 | p::ps,v,b,t=>mkR g l nx bu ps (fillR g l nx p bu v b).2.1 (fillR g l nx p bu v b).2.2 (t+(fillR g l nx p bu v b).1)
section
variable{g:Game}{l:List Pos}{nx:List (List Int)}
end
end Go.Proofs.YtnaefnajkaohgaaGreatDoor
namespace Go.Proofs.YtnaefnajkaohgaaGreatDoor
open Go Go.AL Classical
set_option maxRecDepth 10000
set_option maxHeartbeats 16000000
attribute [local simp] HF H5 tp tbl
theorem XRange.s{T:Tab}{rf:Nat}{live:List Nat}{x:X}{s s':St}{K:OutP}(hs:s=s')(h:XRange T rf live x s' K .mk):XRange T rf live x s K .mk:=by subst hs;exact h
section
variable{g:Game}{l:List Pos}{nx:List (List Int)}{part:List Int}{bu:Int}
theorem f162(w:Bool)(z:List Stp)(o:FOK g l nx part bu)(m:List Int)(v:List Stp)(b:List Bool)(hv:v.length=l.length)(hb:b.length=l.length) :
  Wf T 162 [.yld 11,.ptr 9 0 0] (HF w z g l nx m part bu 0 v b .ready) (fun _ H'=>H'=HF w z g l nx m part bu (rnds g l nx part bu 4001 0 v b 0).1 (rnds g l nx part bu 4001 0 v b 0).2.1 (rnds g l nx part bu 4001 0 v b 0).2.2 .ready):=by
 obtain⟨u,hu⟩:∃ u,u=w:=⟨w,rfl⟩
 cases w
 all_goals
  have hll:=o.len
  generalize hR:rnds g l nx part bu 4001 0 v b 0=R
  refine Yg F162 ?_
  simp[F162]
  refine XLoop.e ((0,v,b,0):Int×List Stp×List Bool×Int) (fun y=>[(0,.yld 11),(1,.ptr 9 0 0),(3,.i y.1)]) (fun y=>HF u z g l nx m part bu y.2.2.2 y.2.1 y.2.2.1 .ready) (fun y=>0≤y.1∧y.1≤4000∧y.2.1.length=l.length∧y.2.2.1.length=l.length∧0≤y.2.2.2∧y.2.2.2≤y.1*4000∧rnds g l nx part bu (4001-y.1).toNat y.1 y.2.1 y.2.2.1 y.2.2.2=R) (fun y=>(4001-y.1).toNat) ?_ ?_
  ·exact⟨by simp,by simp,hv,hb,by simp,by simp,hR⟩
  rintro⟨n,v1,b1,t⟩ ⟨n0,n1,hv1,hb1,t0,t1,hr⟩
  dsimp only at n0 n1 hv1 hb1 t0 t1 hr ⊢
  rw[hu]
  have hld:=lds_in b1 part bu part.length
  have hpl:=o.pl
  have e1:=rV_len o hv1 hb1 (n:=n)
  have e2:=rB_len o (v:=v1) hb1 (n:=n)
  rw[show(4001-n).toNat=(4000-n).toNat+1 by omega,rnds,hv1,← e1]at hr
  simp[-HF]
  refine yld4992 _ z o m n t v1 b1 ⟨n0,n1⟩ ⟨t0,by omega⟩ hv1 hb1 ?_
  generalize rV g l nx part v1 b1 n=v2 at *
  generalize rB g l nx part v1 b1 n=b2 at *
  generalize (lds b1 part bu part.length).1=q at *
  simp[HF,H5,tp,tbl,hu]
  refine XCall.r rfl rfl (f163 v2 b2 g l nx (by omega) (by omega)) (by simp[e1,e2]) (by simp[flat]) (by simp) ?_
  simp
  (with_reducible repeat' first|refine Xk ?_<;>try simp|refine Xs ?_ ?_<;>intro h<;>(try intro h')<;>(try simp[h])<;>(try omega)|refine Xg ?_|omega)
  ·rw[if_pos ⟨by assumption,by assumption⟩]at hr
   refine LJ.i (n+1,v2,b2,t+q) (by first|rfl|simp[HF,H5,tp,tbl,hu]) (by first|rfl|simp[HF,H5,tp,tbl,hu]) rfl rfl ?_
   dsimp only
   refine⟨by omega,by omega,by omega,e1,e2,by omega,by omega,?_⟩
   rw[show(4001-(n+1)).toNat=(4000-n).toNat by omega]
   exact hr
  ·rw[if_neg (fun c=>absurd c.2 (by assumption))]at hr
   subst hr
   exact⟨rfl,rfl,rfl⟩
  ·rw[if_neg (fun c=>absurd c.1 (by omega))]at hr
   subst hr
   exact⟨rfl,rfl,rfl⟩
theorem f78(w:Bool)(z:List Stp)(o:FOK g l nx part bu)(m:List Int)(v:List Stp)(b:List Bool)(hv:v.length=l.length)(hb:b.length=l.length) :
  Wf T 78 [tp w,dI part,.i bu] (H5 w z g l nx m v b)
   (fun d H'=>d = .i (fillR g l nx part bu v b).1∧H'=H5 w z g l nx m (fillR g l nx part bu v b).2.1 (fillR g l nx part bu v b).2.2):=by
 obtain⟨u,hu⟩:∃ u,u=w:=⟨w,rfl⟩
 cases w
 all_goals
  have hp:=o.prt
  have hpl:=o.pl
  have hll:=o.len
  refine Yg F78 ?_
  simp[F78,H5,tp,tbl,hu]
  refine XLoop.e (0:Int) (fun y=>[(3,.ptr 5 0 0),(4,.ptr 6 0 0),(5,.ptr 7 0 0),(20,dI part),(21,.i part.length),(22,.i y)]) (fun y=>H5 u z g l nx m v (ptw b (fun _=>true) (part.take y.toNat)) ++ [.row 139 0 [tp u],.row 33 0 [dI part],.row 3 0 [.i bu]]) (fun y=>0≤y∧y≤part.length) (fun y=>(part.length-y).toNat) ?_ ?_
  ·simp[ptw]
  rintro i ⟨i0,i1⟩
  dsimp only at i0 i1 ⊢
  rw[hu]
  by_cases hi:i<part.length
  ·have hin:=hp _ (gt_mem i0 hi)
   have hl:=ptw_len (fun _=>true) (part.take i.toNat) b fun j hj=>by rw[hb];exact hp j (List.mem_of_mem_take hj)
   simp[hi,H5,tp,tbl,hu]
   (with_reducible repeat' first|refine Xk ?_<;>try simp[hl,hb]|refine Xs ?_ ?_<;>intro h<;>(try intro h')<;>(try simp[h,hl,hb])<;>(try omega)|refine Xg ?_|omega)
   refine LJ.i (i+1) (by first|rfl|simp[H5,tp,tbl,hu,take_gt i0 hi,ptw_snoc]) (by first|rfl|simp[H5,tp,tbl,hu,take_gt i0 hi,ptw_snoc]) rfl rfl ?_
   omega
  ·have:i=part.length:=by omega
   subst this
   simp[H5,tp,tbl,hu]
   refine XCall.inl F117 rfl rfl (by simp[F117]) rfl ?_
   simp[F117]
   refine XRange.s (by simp;rfl) ?_
   refine XRange.r (f:=162) (first:=[]) (cap:=[.ptr 9 0 0]) rfl rfl rfl rfl ?_
   simp
   have h162:=f162 u z o m v (ptw b (fun _=>true) part) hv (by rw[ptw_len _ _ _ (by rw[hb];exact hp),hb])
   rw[hu]at h162
   have hrl:=(rnds_out o bu 4001 0 v (ptw b (fun _=>true) part) 0 hv (by rw[ptw_len _ _ _ (by rw[hb];exact hp),hb])).1
   unfold fillR
   dsimp only
   generalize rnds g l nx part bu 4001 0 v (ptw b (fun _=>true) part) 0=r at *
   obtain⟨t,v1,b1⟩:=r
   obtain⟨hv1,hb1⟩:=hrl
   dsimp only at hv1 hb1 h162 ⊢
   refine Wf.mono h162 ?_
   rintro _ H' rfl
   refine⟨[(3,.ptr 5 0 0),(4,.ptr 6 0 0),(5,.ptr 7 0 0),(9,.ptr 8 0 0)],.ready,by simp[HF,H5,tp,tbl,hu],?_⟩
   simp[HF,H5,tp,tbl,hu]
   refine XLoop.s (by simp;rfl) ?_
   refine XLoop.kg [10] false (0:Int) (fun y=>[(3,.ptr 5 0 0),(9,.ptr 8 0 0),(96,dI part),(97,.i part.length),(98,.i y)]) (fun y=>H5 u z g l nx m (fin2 (part.take y.toNat) v1 b1).1 (fin2 (part.take y.toNat) v1 b1).2 ++ [.row 139 0 [tp u],.row 33 0 [dI part],.row 3 0 [.i bu],.row 3 0 [.i t],.row 139 0 [tp u],.dfr]) (fun y=>0≤y∧y≤part.length) (fun y=>(part.length-y).toNat) ?_ (by simp) (by first|rfl|(simp[cl_one];done)|(simp[*];done)) rfl rfl rfl ?_
   ·simp
   rintro y ⟨y0,y1⟩
   dsimp only at y0 y1 ⊢
   rw[hu]
   by_cases hy:y<part.length
   ·have hin:=hp _ (gt_mem y0 hy)
    have hsub:∀ i∈(part.take y.toNat).filter (fun i=>gt b1 i),0≤i∧i<l.length:=fun i hi=>hp i (List.mem_of_mem_take (List.mem_filter.1 hi).1)
    have hl1:(fin2 (part.take y.toNat) v1 b1).1.length=l.length:=by unfold fin2;rw[ptw_len _ _ _ (by rw[hv1];exact hsub),hv1]
    have hl2:(fin2 (part.take y.toNat) v1 b1).2.length=l.length:=by unfold fin2;rw[ptw_len _ _ _ (by rw[hb1];exact hsub),hb1]
    have hgb:gt (fin2 (part.take y.toNat) v1 b1).2 (gt part y)=gt b1 (gt part y):=by
     unfold fin2
     dsimp only
     rw[gt_ptw _ _ _ (by rw[hb1];exact hsub) _ hin.1 (by omega),if_neg fun hm=>?_]
     have h1:=(List.mem_filter.1 hm).1
     have h2:=o.nd
     rw[← List.take_append_drop y.toNat part,drop_gt y0 hy,List.nodup_append]at h2
     exact h2.2.2 _ h1 _ (List.mem_cons_self ..) rfl
    have hon:gt b1 (gt part y)=true→fin2 (part.take (y+1).toNat) v1 b1=(pt (fin2 (part.take y.toNat) v1 b1).1 (gt part y) (2,0),pt (fin2 (part.take y.toNat) v1 b1).2 (gt part y) false):=fun h=>by
     unfold fin2
     rw[take_gt y0 hy,List.filter_append,List.filter_cons_of_pos h,List.filter_nil,ptw_snoc,ptw_snoc]
    have hoff:gt b1 (gt part y)=false→fin2 (part.take (y+1).toNat) v1 b1=fin2 (part.take y.toNat) v1 b1:=fun h=>by
     unfold fin2
     rw[take_gt y0 hy,List.filter_append,List.filter_cons_of_neg (by rw[h];decide),List.filter_nil,List.append_nil]
    generalize hF:fin2 (part.take y.toNat) v1 b1=F at *
    obtain⟨v2,b2⟩:=F
    dsimp only at hl1 hl2 hgb hon hoff ⊢
    simp[hy,H5,tp,tbl,hu,hF,hl1,hl2,hgb]
    (with_reducible repeat' first|refine Xk ?_<;>try simp[hl1,hl2,hgb,clS_put]|refine Xs ?_ ?_<;>intro h<;>(try intro h')<;>(try simp[h,hl1,hl2,hgb,clS_put])<;>(try omega)|refine Xg ?_|omega)
    ·refine LJ.i (y+1) (by first|rfl|simp[H5,tp,tbl,hu,hon h]) (by first|rfl|simp[H5,tp,tbl,hu,hon h]) (by first|rfl|simp[H5,tp,tbl,hu,hon h]) (by first|rfl|simp[H5,tp,tbl,hu,hon h]) ?_
     omega
    ·refine LJ.i (y+1) (by first|rfl|simp[H5,tp,tbl,hu,hoff h]) (by first|rfl|simp[H5,tp,tbl,hu,hoff h]) (by first|rfl|simp[H5,tp,tbl,hu,hoff h]) (by first|rfl|simp[H5,tp,tbl,hu,hoff h]) ?_
     omega
   ·have:y=part.length:=by omega
    subst this
    simp[H5,tp,tbl,hu]
end
end Go.Proofs.YtnaefnajkaohgaaGreatDoor
namespace Go.Proofs.YtnaefnajkaohgaaGreatDoor
open Go Go.AL Classical
set_option maxRecDepth 10000
set_option maxHeartbeats 8000000
structure MOK(g:Game)(m:List Int):Prop where
 len:m.length=g.kinds.length
 num:∀ a∈m,1≤a∧a≤6
def lvC(m:List Int)(x:Int):Int:=if 0≤manK x then gt m (manK x)else 0
def lvA(m cs:List Int):Nat→Int
 | 0=>0
 | i+1=>lvA m cs i+lvC m (gt cs (i:Int))
def lvH(m a b:List Int):Nat→Int
 | 0=>0
 | i+1=>lvH m a b i+gt m (i:Int)*(gt a (i:Int)+gt b (i:Int))
def popR(r:Int):Int:=if r=0 then 0 else if r=3 then 2 else 1
def levL(m:List Int)(p:Pos):Int:=lvA m p.cs p.cs.length+lvH m p.h0 p.h1 m.length+popR p.rights
@[simp] theorem lvA_0(m cs:List Int):lvA m cs 0=0:=rfl
@[simp] theorem lvH_0(m a b:List Int):lvH m a b 0=0:=rfl
theorem lvA_s{m cs:List Int}{i:Int}(i0:0≤i):lvA m cs (i+1).toNat=lvA m cs i.toNat+lvC m (gt cs i):=by
 have h:(i+1).toNat=i.toNat+1:=by omega
 have h2:((i.toNat:Nat):Int)=i:=by omega
 rw[h,lvA,h2]
theorem lvH_s{m a b:List Int}{i:Int}(i0:0≤i):lvH m a b (i+1).toNat=lvH m a b i.toNat+gt m i*(gt a i+gt b i):=by
 have h:(i+1).toNat=i.toNat+1:=by omega
 have h2:((i.toNat:Nat):Int)=i:=by omega
 rw[h,lvH,h2]
section
variable{g:Game}{m:List Int}{p:Pos}
theorem manK_in(hk:g.kinds.length≤2){x:Int}(h:0≤x∧x≤2*g.kinds.length)(h2:0≤manK x):manK x<g.kinds.length:=by
 unfold manK at *
 split at h2
 ·rw[if_pos (by assumption)];omega
 ·omega
theorem lvC_in(hg:GameOK g)(hm:MOK g m)(hp:PosOK g p){x:Int}(hx:x∈p.cs):0≤lvC m x∧lvC m x≤6:=by
 unfold lvC
 split
 ·rename_i h
  have:=manK_in hg.kinds.2 (hp.cs x hx) h
  have:=hm.num _ (gt_mem h (by rw[hm.len];exact this))
  omega
 ·omega
theorem lvA_in(hg:GameOK g)(hm:MOK g m)(hp:PosOK g p):∀ i:Nat,i≤p.cs.length→0≤lvA m p.cs i∧lvA m p.cs i≤6*i
 | 0,_=>by simp
 | i+1,h=>by
  have h1:=lvA_in hg hm hp i (by omega)
  have h2:=lvC_in hg hm hp (gt_mem (l:=p.cs) (n:=(i:Int)) (by omega) (by omega))
  rw[lvA]
  omega
theorem mul_in{a b:Int}(h1:1≤a∧a≤6)(h2:0≤b∧b≤16):0≤a*b∧a*b≤96:=by
 have h3:=Int.mul_nonneg (by omega:0≤a) h2.1
 have h4:=Int.mul_le_mul h1.2 h2.2 h2.1 (by omega:(0:Int)≤6)
 omega
theorem lvH_t(hm:MOK g m)(hp:PosOK g p){i:Int}(i0:0≤i)(i1:i<m.length):(0≤gt p.h0 i+gt p.h1 i∧gt p.h0 i+gt p.h1 i≤16)∧0≤gt m i*(gt p.h0 i+gt p.h1 i)∧gt m i*(gt p.h0 i+gt p.h1 i)≤96:=by
 have l0:=hp.h0.len
 have l1:=hp.h1.len
 have lm:=hm.len
 have a0:=hp.h0.at_ i i0 (by omega)
 have a1:=hp.h1.at_ i i0 (by omega)
 have h:0≤gt p.h0 i+gt p.h1 i∧gt p.h0 i+gt p.h1 i≤16:=by omega
 exact⟨h,mul_in (hm.num _ (gt_mem i0 i1)) h⟩
theorem lvH_in(hm:MOK g m)(hp:PosOK g p):∀ i:Nat,i≤m.length→0≤lvH m p.h0 p.h1 i∧lvH m p.h0 p.h1 i≤96*i
 | 0,_=>by simp
 | i+1,h=>by
  have h1:=lvH_in hm hp i (by omega)
  have h2:=lvH_t hm hp (i:=(i:Int)) (by omega) (by omega)
  rw[lvH]
  omega
theorem rights4(hg:GameOK g)(hp:PosOK g p):p.rights=0∨p.rights=1∨p.rights=2∨p.rights=3:=by
 have h1:=hg.rights
 have h2:=hp.rights
 rcases(show g.rights=0∨g.rights=1∨g.rights=2 by omega)with e|e|e<;>rw[e]at h2<;>simp at h2<;>omega
theorem popR_in(r:Int):0≤popR r∧popR r≤2:=by unfold popR;(repeat' split)<;>omega
theorem levL_in(hg:GameOK g)(hm:MOK g m)(hp:PosOK g p):0≤levL m p∧levL m p≤1000:=by
 have h1:=lvA_in hg hm hp p.cs.length (Nat.le_refl _)
 have h2:=lvH_in hm hp m.length (Nat.le_refl _)
 have h3:=popR_in p.rights
 have h4:=hp.size
 have h5:=hg.board.size
 have h6:=hg.kinds
 have h7:=hm.len
 unfold levL
 omega
theorem and10:bits BinOp.and IntKind.i64 1 0=0:=by decide
theorem and21:bits BinOp.and IntKind.i64 2 1=0:=by decide
theorem and32:bits BinOp.and IntKind.i64 3 2=2:=by decide
theorem f114(hg:GameOK g)(hm:MOK g m)(hp:PosOK g p):Wf T 114 [.agg [dI m],dP p] [] (Is (.i (levL m p))):=by
 have hk:=hg.kinds
 have hsz:=hp.size
 have hbs:=hg.board.size
 have lm:=hm.len
 have l0:=hp.h0.len
 have l1:=hp.h1.len
 refine Yg F114 ?_
 simp[F114]
 refine XLoop.e (0:Int) (fun y=>[(2,.ptr 0 0 0),(3,.ptr 1 0 0),(5,.i (lvA m p.cs y.toNat)),(14,dI p.cs),(15,.i p.cs.length),(16,.i y)]) (fun y=>[.row 50 0 [dI m],.row 44 0 p.cells]) (fun y=>0≤y∧y≤p.cs.length) (fun y=>(p.cs.length-y).toNat) ?_ ?_
 ·simp
 rintro i ⟨i0,i1⟩
 dsimp only at i0 i1 ⊢
 by_cases hi:i<p.cs.length
 ·have hs:=lvA_s (m:=m) (cs:=p.cs) i0
  have hin:=lvA_in hg hm hp i.toNat (by omega)
  have hmem:=gt_mem i0 hi
  have hci:=lvC_in hg hm hp hmem
  have hmk:=manK_in hk.2 (hp.cs _ hmem)
  simp[hi]
  (with_reducible repeat' first|refine Xk ?_<;>try simp|refine Xs ?_ ?_<;>intro h<;>(try intro h')<;>(try simp[h])<;>(try omega)|refine Xg ?_|omega)
  refine Yc (f84 _) ?_
  simp
  unfold lvC at hs hci
  (with_reducible repeat' first|refine Xk ?_<;>try simp|refine Xs ?_ ?_<;>intro h<;>(try intro h')<;>(try simp[h])<;>(try omega)|refine Xg ?_|omega)
  ·rw[if_pos (by assumption)]at hs hci
   (with_reducible repeat' first|refine Xk ?_<;>try simp|refine Xs ?_ ?_<;>intro h<;>(try intro h')<;>(try simp[h])<;>(try omega)|refine Xg ?_|omega)
   refine LJ.i (i+1) (by first|rfl|simp[hs]) (by first|rfl|simp[hs]) rfl rfl ?_
   omega
  ·rw[if_neg (by omega)]at hs
   refine LJ.i (i+1) (by first|rfl|simp[hs]) (by first|rfl|simp[hs]) rfl rfl ?_
   omega
 have hie:i=p.cs.length:=by omega
 subst hie
 simp
 have hA:=lvA_in hg hm hp p.cs.length (Nat.le_refl _)
 unfold levL
 generalize lvA m p.cs p.cs.length=A at *
 refine XLoop.e (0:Int) (fun y=>[(3,.ptr 1 0 0),(5,.i (A+lvH m p.h0 p.h1 y.toNat)),(36,dI m),(37,.i m.length),(38,.i y)]) (fun y=>[.row 50 0 [dI m],.row 44 0 p.cells]) (fun y=>0≤y∧y≤m.length) (fun y=>(m.length-y).toNat) ?_ ?_
 ·simp
 rintro i ⟨i0,i1⟩
 dsimp only at i0 i1 ⊢
 by_cases hi:i<m.length
 ·have hs:=lvH_s (m:=m) (a:=p.h0) (b:=p.h1) i0
  have hin:=lvH_in hm hp i.toNat (by omega)
  have ht:=lvH_t hm hp i0 hi
  simp[hi]
  (with_reducible repeat' first|refine Xk ?_<;>try simp|refine Xs ?_ ?_<;>intro h<;>(try intro h')<;>(try simp[h])<;>(try omega)|refine Xg ?_|omega)
  refine LJ.i (i+1) (by first|rfl|simp[hs,Int.add_assoc]) (by first|rfl|simp[hs,Int.add_assoc]) rfl rfl ?_
  omega
 have hie:i=m.length:=by omega
 subst hie
 simp
 have hH:=lvH_in hm hp m.length (Nat.le_refl _)
 generalize lvH m p.h0 p.h1 m.length=B at *
 rcases rights4 hg hp with e|e|e|e
 ·refine XLoop.un ?_
  refine XLoopN.u ?_
  simp[e,and10,and21,and32]
  simp[popR,and10,and21,and32]
 ·refine XLoop.un ?_
  refine XLoopN.u ?_
  simp[e,and10,and21,and32]
  (with_reducible repeat' first|refine Xk ?_<;>try simp[and10,and21,and32]|refine Xs ?_ ?_<;>intro h<;>(try intro h')<;>(try simp[h,and10,and21,and32])<;>(try omega)|refine Xg ?_|omega)
  refine XLoopN.u ?_
  simp[e,and10,and21,and32]
  simp[popR,and10,and21,and32]
 ·refine XLoop.un ?_
  refine XLoopN.u ?_
  simp[e,and10,and21,and32]
  (with_reducible repeat' first|refine Xk ?_<;>try simp[and10,and21,and32]|refine Xs ?_ ?_<;>intro h<;>(try intro h')<;>(try simp[h,and10,and21,and32])<;>(try omega)|refine Xg ?_|omega)
  refine XLoopN.u ?_
  simp[e,and10,and21,and32]
  simp[popR,and10,and21,and32]
 ·refine XLoop.un ?_
  refine XLoopN.u ?_
  simp[e,and10,and21,and32]
  (with_reducible repeat' first|refine Xk ?_<;>try simp[and10,and21,and32]|refine Xs ?_ ?_<;>intro h<;>(try intro h')<;>(try simp[h,and10,and21,and32])<;>(try omega)|refine Xg ?_|omega)
  refine XLoopN.u ?_
  simp[e,and10,and21,and32]
  (with_reducible repeat' first|refine Xk ?_<;>try simp[and10,and21,and32]|refine Xs ?_ ?_<;>intro h<;>(try intro h')<;>(try simp[h,and10,and21,and32])<;>(try omega)|refine Xg ?_|omega)
  refine XLoopN.u ?_
  simp[e,and10,and21,and32]
  simp[popR,and10,and21,and32,Int.add_assoc]
end
end Go.Proofs.YtnaefnajkaohgaaGreatDoor
