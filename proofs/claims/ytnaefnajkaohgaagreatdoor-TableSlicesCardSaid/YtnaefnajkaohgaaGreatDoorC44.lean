/- Part 44 of the proof of skewer.skewerlaw15.TableSlices. -/
import Derived.Test.YtnaefnajkaohgaaGreatDoorC43
import Derived.Test.YtnaefnajkaohgaaGreatDoorC41
set_option linter.all false
namespace Go.Proofs.YtnaefnajkaohgaaGreatDoor
open Go Go.AL Classical
section
variable{g:Game}{m:List Int}
theorem lvA_pt{cs:List Int}{c v:Int}(c0:0≤c)(c1:c<cs.length):∀ n:Nat,n≤cs.length→lvA m (pt cs c v) n=lvA m cs n+if c<n then lvC m v-lvC m (gt cs c)else 0
 | 0,_=>by simp;omega
 | n+1,h=>by
  have ih:=lvA_pt (v:=v) c0 c1 n (by omega)
  rw[lvA,lvA,ih,gt_pt c0 c1 (by omega)]
  by_cases e:(n:Int)=c
  ·subst e
   rw[if_pos rfl,if_neg (by omega),if_pos (by omega)]
   omega
  ·rw[if_neg e]
   by_cases e2:c<(n:Int)
   ·rw[if_pos e2,if_pos (by omega)];omega
   ·rw[if_neg e2,if_neg (by omega)];omega
theorem lvA_put{cs:List Int}{c v:Int}(c0:0≤c)(c1:c<cs.length):lvA m (pt cs c v) (pt cs c v).length=lvA m cs cs.length+lvC m v-lvC m (gt cs c):=by
 rw[pt_len c0 c1,lvA_pt c0 c1 _ (Nat.le_refl _),if_pos c1];omega
theorem lvH_pt{a b:List Int}{k v:Int}(k0:0≤k)(k1:k<a.length):∀ n:Nat,n≤a.length→lvH m (pt a k v) b n=lvH m a b n+if k<n then gt m k*(v-gt a k)else 0
 | 0,_=>by simp;omega
 | n+1,h=>by
  have ih:=lvH_pt (b:=b) (v:=v) k0 k1 n (by omega)
  rw[lvH,lvH,ih,gt_pt k0 k1 (by omega)]
  by_cases e:(n:Int)=k
  ·subst e
   rw[if_pos rfl,if_neg (by omega),if_pos (by omega)]
   simp only[Int.mul_add,Int.mul_sub];omega
  ·rw[if_neg e]
   by_cases e2:k<(n:Int)
   ·rw[if_pos e2,if_pos (by omega)];omega
   ·rw[if_neg e2,if_neg (by omega)];omega
theorem lvH_comm{a b:List Int}:∀ n:Nat,lvH m a b n=lvH m b a n
 | 0=>rfl
 | n+1=>by rw[lvH,lvH,lvH_comm n,Int.add_comm (gt a (n:Int))]
theorem lvC_zero:lvC m 0=0:=by unfold lvC manK;simp
theorem lvC_man{c:Int}(h:0≤manK c):lvC m c=gt m (manK c):=by unfold lvC;rw[if_pos h]
theorem manK_code{k s:Int}(h0:0≤k)(h1:k<2)(s0:0≤s)(s1:s≤1):manK (codeM k s)=k:=by
 unfold manK codeM
 rw[if_pos (by omega)];omega
theorem popR_drop{r n:Int}(h0:0≤r)(h1:r<4)(n0:0≤n)(n1:n<2):popR (dropRight r n)≤popR r:=by
 rcases(show r=0∨r=1∨r=2∨r=3 by omega)with rfl|rfl|rfl|rfl<;>rcases(show n=0∨n=1 by omega)with rfl|rfl<;>decide
def levS(m:List Int)(s:Sta):Int:=levL m s.p+gt m s.kind
theorem levL_hand{p:Pos}(hm:MOK g m)(hp:PosOK g p){s k v:Int}(k0:0≤k)(k1:k<g.kinds.length):levL m (p.putHand s (pt (p.hand s) k v))=levL m p+gt m k*(v-gt (p.hand s) k):=by
 have l0:=hp.h0.len
 have l1:=hp.h1.len
 have lm:=hm.len
 unfold Pos.putHand Pos.hand levL
 by_cases e:s=0
 ·simp only[e,if_true]
  rw[lvH_pt k0 (by omega) _ (by omega),if_pos (by omega)];omega
 ·simp only[e,if_false]
  rw[lvH_comm,lvH_pt k0 (by omega) _ (by omega),if_pos (by omega),lvH_comm];omega
theorem levL_cs{p:Pos}{c v:Int}(c0:0≤c)(c1:c<p.cs.length):levL m { p with cs:=pt p.cs c v }=levL m p+lvC m v-lvC m (gt p.cs c):=by
 unfold levL
 dsimp only
 rw[lvA_put c0 c1];omega
theorem stepL_lev(hg:GameOK g)(hm:MOK g m){s:Sta}(hs:StaOK g s){x:Stp}(hx:StepOK g x)(hb:x.1=8→gt m x.2≤gt m s.kind){t:Sta}(h:t∈stepL g s x):levS m t≤levS m s∧(x.1≠8→t.kind=s.kind):=by
 have hbd:=hg.board
 have hcur:s.cur<s.p.cs.length:=by rw[hs.p.size];exact hs.cur.2
 have hc:=hs.p.cs _ (gt_mem hs.cur.1 hcur)
 unfold stepL at h
 dsimp only at h
 split at h
 ·split at h
  ·rw[List.mem_singleton]at h;subst h
   exact⟨Int.le_refl _,fun _=>rfl⟩
  ·cases h
 split at h
 ·obtain⟨c,h1,rfl⟩:=lineSt_mem h
  exact⟨Int.le_refl _,fun _=>rfl⟩
 iterate 3
  split at h
  ·split at h
   ·rw[List.mem_singleton]at h;subst h;exact⟨Int.le_refl _,fun _=>rfl⟩
   ·cases h
 split at h
 ·unfold takeS at h
  dsimp only at h
  split at h
  ·cases h
  rename_i e
  have e:=Decidable.not_not.1 e
  have hsd:=hs.p.side
  obtain⟨m1,m2,m3,m4⟩:=manS_side (by omega) e
  have hk:manK (gt s.p.cs s.cur)<g.kinds.length:=manK_le hc.2 hg.kinds.1
  have hp:PosOK g { s.p with cs:=pt s.p.cs s.cur 0 }:=hs.p.setC hs.cur.1 hs.cur.2 (by omega)
  have hl:=levL_cs (m:=m) (p:=s.p) (v:=0) hs.cur.1 hcur
  have h1:=hm.num _ (gt_mem m1 (by rw[hm.len];exact hk))
  rw[lvC_zero,lvC_man m1]at hl
  split at h
  ·rw[List.mem_singleton]at h;subst h
   refine⟨?_,fun _=>rfl⟩
   unfold levS
   (try dsimp only at hl)
   (try dsimp only at hh)
   dsimp only
   omega
  split at h
  ·rw[List.mem_singleton]at h;subst h
   refine⟨?_,fun _=>rfl⟩
   have hh:=levL_hand hm hp (s:=s.p.side) (k:=manK (gt s.p.cs s.cur)) (v:=gt (s.p.hand s.p.side) (manK (gt s.p.cs s.cur))+1) m1 hk
   have e2:({ s.p with cs:=pt s.p.cs s.cur 0 }:Pos).hand s.p.side=s.p.hand s.p.side:=by unfold Pos.hand;split<;>rfl
   rw[e2,show gt (s.p.hand s.p.side) (manK (gt s.p.cs s.cur))+1-gt (s.p.hand s.p.side) (manK (gt s.p.cs s.cur))=1 by omega,Int.mul_one]at hh
   unfold levS
   (try dsimp only at hl)
   (try dsimp only at hh)
   dsimp only
   omega
  ·cases h
 split at h
 ·unfold pushS at h
  dsimp only at h
  split at h
  ·cases h
  rename_i e
  simp only[not_or,Int.not_lt,Decidable.not_not]at e
  rw[List.mem_singleton]at h;subst h
  refine⟨?_,fun _=>rfl⟩
  have ht:=hbd.to s.p.side x.2 s.cur
  have t1:toB g s.p.side x.2 s.cur<s.p.cs.length:=by rw[hs.p.size];exact ht.2
  have hne:s.cur≠toB g s.p.side x.2 s.cur:=fun e1=>e.1 (e1▸e.2.2)
  have hl1:=levL_cs (m:=m) (p:=s.p) (v:=gt s.p.cs s.cur) e.2.1 t1
  have hl2:=levL_cs (m:=m) (p:={ s.p with cs:=pt s.p.cs (toB g s.p.side x.2 s.cur) (gt s.p.cs s.cur) }) (c:=s.cur) (v:=0) hs.cur.1 (by dsimp only;rw[pt_len e.2.1 t1];exact hcur)
  dsimp only at hl2
  rw[gt_pt_ne e.2.1 t1 hs.cur.1 hne,lvC_zero]at hl2
  rw[e.2.2,lvC_zero]at hl1
  unfold levS
  dsimp only
  omega
 split at h
 ·rename_i e8
  rw[List.mem_singleton]at h;subst h
  have:=hb e8
  refine⟨?_,fun h=>absurd e8 h⟩
  unfold levS
  dsimp only
  omega
 split at h
 ·split at h
  ·rw[List.mem_singleton]at h;subst h;exact⟨Int.le_refl _,fun _=>rfl⟩
  ·cases h
 ·rw[List.mem_singleton]at h;subst h
  refine⟨?_,fun _=>rfl⟩
  have hr:=rights4 hg hs.p
  have hgr:=hg.rights
  have hxx:=hx.ok
  have:=popR_drop (r:=s.p.rights) (n:=x.2) (by omega) (by omega) (by omega) (by omega)
  unfold levS levL
  dsimp only
  omega
theorem runL_lev(hg:GameOK g)(hm:MOK g m){k L:Int}:∀ {l:List Stp} {a:List Sta},(∀ x∈l,StepOK g x)→(∀ x∈l,x.1=8→gt m x.2≤gt m k)→cntOp l 8≤1→(∀ s∈a,StaOK g s∧levS m s≤L∧(0<cntOp l 8→s.kind=k))→∀ s∈runL g l a,StaOK g s∧levS m s≤L
 | [],a,_,_,_,h=>fun s hs=>⟨(h s hs).1,(h s hs).2.1⟩
 | x::r,a,h1,h2,h3,h=>by
  rw[runL]
  have hcnt:cntOp (x::r) 8=cntOp r 8+if x.1=8 then 1 else 0:=by
   unfold cntOp
   rw[List.countP_cons]
   by_cases e:x.1=8<;>simp[e]
  have h0:0≤cntOp r 8:=by unfold cntOp;omega
  refine runL_lev hg hm (fun y hy=>h1 y (by simp[hy])) (fun y hy=>h2 y (by simp[hy])) (by split at hcnt<;>omega) fun t ht=>?_
  obtain⟨s,hs,ht⟩:=List.mem_flatMap.1 ht
  obtain⟨s1,s2,s3⟩:=h s hs
  have hx:=h1 x (by simp)
  have hl:=stepL_lev hg hm s1 hx (fun e=>by rw[s3 (by rw[hcnt,if_pos e];omega)];exact h2 x (by simp) e) ht
  refine⟨stepL_ok hg s1 hx ht,by omega,fun hc=>?_⟩
  have e:x.1≠8:=fun e=>by rw[if_pos e]at hcnt;omega
  rw[hl.2 e]
  exact s3 (by rw[hcnt,if_neg e];omega)
theorem outsL_lev(hg:GameOK g)(hv:MVal g m){p:Pos}(hp:PosOK g p){o:Outc}(h:o∈outsL g p):levL m o.p≤levL m p:=by
 have hm:=hv.ok
 have hsd:=hp.side
 obtain⟨c,hc,h⟩:=List.mem_flatMap.1 h
 rw[mem_upto]at hc
 have hc2:c<g.size:=by rw[← hp.size];exact hc.2
 unfold outsAt at h
 split at h
 ·rename_i e
  obtain⟨l,hl,h⟩:=List.mem_flatMap.1 h
  obtain⟨s,hs,h⟩:=List.mem_filterMap.1 h
  have hst:=startS_ok hg hp hc.1 hc2 e
  have hk:=hg.progs _ (gt_mem (l:=g.kinds) hst.kind.1 hst.kind.2)
  have hpr:=hk.2 l hl
  have m1:=(manS_side hp.side.1 e).1
  have hl0:=levL_cs (m:=m) (p:=p) (v:=0) hc.1 hc.2
  rw[lvC_zero,lvC_man m1]at hl0
  have h0:levS m (startS p c)=levL m p:=by
   unfold levS startS
   dsimp only
   omega
  have hr:=runL_lev hg hm (k:=manK (gt p.cs c)) (L:=levL m p) hpr.steps (fun x hx e8=>by
   have h8:=(hpr.steps x hx).ok
   refine hv.le _ _ hst.kind.1 hst.kind.2 (by omega) (by omega) ?_
   exact List.any_eq_true.2 ⟨l,hl,List.any_eq_true.2 ⟨x,hx,by simp[e8]⟩⟩) hpr.become (fun t ht=>by
    rw[List.mem_singleton]at ht;subst ht
    exact⟨hst,by omega,fun _=>rfl⟩) s hs
  unfold finS at h
  split at h
  ·rename_i e0
   cases h
   have hs1:=hr.1
   have hcur:s.cur<s.p.cs.length:=by rw[hs1.p.size];exact hs1.cur.2
   have hk2:=hg.kinds.2
   have hkk:=hs1.kind
   have hl1:=levL_cs (m:=m) (p:=s.p) (v:=codeM s.kind p.side) hs1.cur.1 hcur
   have hkc:=manK_code (k:=s.kind) (s:=p.side) hkk.1 (by omega) hsd.1 hsd.2
   rw[e0,lvC_zero,lvC_man (by rw[hkc];exact hkk.1),hkc]at hl1
   have h2:=hr.2
   unfold levS at h2
   have e1:levL m { s.p with cs:=pt s.p.cs s.cur (codeM s.kind p.side),side:=1-p.side }=levL m { s.p with cs:=pt s.p.cs s.cur (codeM s.kind p.side) }:=rfl
   (try dsimp only at hl1)
   (try dsimp only at e1)
   dsimp only
   rw[e1]
   omega
  ·cases h
 ·cases h
theorem drop_lev(hg:GameOK g)(hm:MOK g m){p:Pos}(hp:PosOK g p){q:Pos}(h:IsDrop g p q):levL m q=levL m p:=by
 obtain⟨k,c,h1,h2,h3,h4,h5,h6,rfl⟩:=h
 have hsd:=hp.side
 have hk2:=hg.kinds.2
 have hh:=levL_hand hm hp (s:=p.side) (v:=gt (p.hand p.side) k-1) h1 h2
 have e:(p.putHand p.side (pt (p.hand p.side) k (gt (p.hand p.side) k-1))).cs=p.cs:=by unfold Pos.putHand;split<;>rfl
 have hl:=levL_cs (m:=m) (p:=p.putHand p.side (pt (p.hand p.side) k (gt (p.hand p.side) k-1))) (c:=c) (v:=codeM k p.side) h3 (by rw[e];exact h4)
 have hkc:=manK_code (k:=k) (s:=p.side) h1 (by omega) hsd.1 hsd.2
 rw[e,h6,lvC_zero,lvC_man (by rw[hkc];exact h1),hkc]at hl
 have e1:levL m (drop1 p k c)=levL m { p.putHand p.side (pt (p.hand p.side) k (gt (p.hand p.side) k-1))with cs:=pt p.cs c (codeM k p.side) }:=rfl
 rw[e1,hl,hh]
 rw[show gt (p.hand p.side) k-1-gt (p.hand p.side) k = -1 by omega,Int.mul_neg,Int.mul_one]
 omega
theorem move_lev(hg:GameOK g)(hv:MVal g m){p:Pos}(hp:PosOK g p){q:Pos}(h:IsMove g p q):levL m q≤levL m p:=by
 obtain⟨_,h⟩:=h
 split at h
 ·exact outsL_lev hg hv hp h
 ·rcases h with⟨o,h,rfl⟩|h
  ·exact outsL_lev hg hv hp h
  ·exact Int.le_of_eq (drop_lev hg hv.ok hp h)
end
end Go.Proofs.YtnaefnajkaohgaaGreatDoor
namespace Go.Proofs.YtnaefnajkaohgaaGreatDoor
open Go Go.AL Classical
section
variable{g:Game}{l:List Pos}{nx:List (List Int)}{part:List Int}{bu:Int}
structure Agr(L:Nat)(S:Int→Prop)(v:List Stp)(b:List Bool)(v':List Stp)(b':List Bool):Prop where
 vl:v.length=L
 bl:b.length=L
 vl':v'.length=L
 bl':b'.length=L
 eb:∀ k:Int,0≤k→k<L→S k→gt b k=gt b' k
 ev:∀ k:Int,0≤k→k<L→S k→gt b k=false→gt v k=gt v' k
theorem Agr.symm{L:Nat}{S:Int→Prop}{v:List Stp}{b:List Bool}{v':List Stp}{b':List Bool}(h:Agr L S v b v' b'):Agr L S v' b' v b:=
 ⟨h.vl',h.bl',h.vl,h.bl,fun k k0 k1 s=>(h.eb k k0 k1 s).symm,fun k k0 k1 s e=>(h.ev k k0 k1 s (by rw[h.eb k k0 k1 s];exact e)).symm⟩
structure Sees(l:List Pos)(nx:List (List Int))(part:List Int)(S:Int→Prop):Prop where
 own:∀ i∈part,S i
 next:∀ i∈part,∀ k∈gt nx i,S k
theorem wnM_agr{L:Nat}{S:Int→Prop}{v v':List Stp}{b b':List Bool}(h:Agr L S v b v' b'){x:List Int}(hx:∀ k∈x,(0≤k∧k<L)∧S k):∀ j:Nat,j≤x.length→wnM v b x j=wnM v' b' x j
 | 0,_=>rfl
 | j+1,hj=>by
  have hm:=hx _ (gt_mem (l:=x) (n:=(j:Int)) (by omega) (by omega))
  have h1:=h.eb _ hm.1.1 hm.1.2 hm.2
  rw[wnM,wnM,wnM_agr h hx j (by omega),← h1]
  by_cases e:gt b (gt x (j:Int))=false
  ·rw[h.ev _ hm.1.1 hm.1.2 hm.2 e]
  ·rw[if_neg (fun c=>e c.1),if_neg (fun c=>e c.1)]
theorem lostN_agr{L:Nat}{S:Int→Prop}{v v':List Stp}{b b':List Bool}(h:Agr L S v b v' b'){x:List Int}(hx:∀ k∈x,(0≤k∧k<L)∧S k){n:Int}(hl:lostN v b x n):lostN v' b' x n:=by
 obtain⟨k,hk,h1,h2⟩:=hl
 have hm:=hx k hk
 exact⟨k,hk,by rw[← h.eb k hm.1.1 hm.1.2 hm.2];exact h1,by rw[← h.ev k hm.1.1 hm.1.2 hm.2 h1];exact h2⟩
theorem entE_agr{L:Nat}{S:Int→Prop}{v v':List Stp}{b b':List Bool}(h:Agr L S v b v' b'){x:List Int}(hx:∀ k∈x,(0≤k∧k<L)∧S k)(p:Pos)(n:Int):entE g p v b x n=entE g p v' b' x n:=by
 have e:lostN v b x n↔lostN v' b' x n:=⟨lostN_agr h hx,lostN_agr h.symm hx⟩
 unfold entE
 rw[wnM_agr h hx x.length (Nat.le_refl _)]
 by_cases c:lostN v b x n
 ·rw[if_pos c,if_pos (e.1 c)]
 ·rw[if_neg c,if_neg (fun d=>c (e.2 d))]
theorem round_agr(o:FOK g l nx part bu){S:Int→Prop}(hS:Sees l nx part S){v v':List Stp}{b b':List Bool}(h:Agr l.length S v b v' b')(n:Int):Agr l.length S (rV g l nx part v b n) (rB g l nx part v b n) (rV g l nx part v' b' n) (rB g l nx part v' b' n):=by
 have hx:∀ i∈part,∀ k∈gt nx i,(0≤k∧k<l.length)∧S k:=fun i hi k hk=>⟨(o.nxk i (o.prt i hi).1 (o.prt i hi).2).1 k hk,hS.next i hi k hk⟩
 have he:∀ i∈part,en1 g l nx v b n i=en1 g l nx v' b' n i:=fun i hi=>by unfold en1;rw[entE_agr h (hx i hi)]
 have hd:dcs g l nx part v b n=dcs g l nx part v' b' n:=by
  unfold dcs
  refine List.filter_congr fun i hi=>?_
  have hp:=o.prt i hi
  unfold okE
  rw[entE_agr h (hx i hi),h.eb i hp.1 hp.2 (hS.own i hi)]
 refine⟨rV_len o h.vl h.bl,rB_len o h.bl,rV_len o h.vl' h.bl',rB_len o h.bl',fun k k0 k1 s=>?_,fun k k0 k1 s e=>?_⟩
 ·rw[gt_rB o h.bl k0 k1,gt_rB o h.bl' k0 k1,hd,h.eb k k0 k1 s]
 ·rw[gt_rV o h.vl h.bl k0 k1,gt_rV o h.vl' h.bl' k0 k1,hd]
  rw[gt_rB o h.bl k0 k1,hd]at e
  split
  ·rename_i hm
   exact he k (dcs_sub hm)
  ·rename_i hm
   rw[if_neg hm]at e
   exact h.ev k k0 k1 s e
def Quiet(L:Nat)(S:Int→Prop)(v:List Stp)(b:List Bool)(n:Int):Prop:=∀ k:Int,0≤k→k<L→S k→gt b k=false→(gt v k).1≠2→(gt v k).2<n
theorem Quiet.agr{L:Nat}{S:Int→Prop}{v v':List Stp}{b b':List Bool}{n:Int}(q:Quiet L S v b n)(h:Agr L S v b v' b'):Quiet L S v' b' n:=fun k k0 k1 s e f=>by
 have hb:=h.eb k k0 k1 s
 have hv:=h.ev k k0 k1 s (by rw[hb];exact e)
 rw[← hv]at f ⊢
 exact q k k0 k1 s (by rw[hb];exact e) f
theorem Quiet.none(o:FOK g l nx part bu){S:Int→Prop}(hS:Sees l nx part S){v:List Stp}{b:List Bool}{n:Int}(n0:0≤n)(q:Quiet l.length S v b n):dcs g l nx part v b (n+1) = []:=by
 refine List.filter_eq_nil_iff.2 fun i hi=>?_
 have hp:=o.prt i hi
 have hx:=(o.nxk i hp.1 hp.2).1
 unfold okE entE
 rw[if_neg (by omega),if_neg]
 ·simp only[Bool.and_eq_true,decide_eq_true_eq,not_and]
  intro h
  exfalso
  rcases wn_ex v b (gt nx i) (gt nx i).length (Nat.le_refl _)with e|⟨j,hj,e1,e2,e3⟩
  ·omega
  ·have:=q j (hx j hj).1 (hx j hj).2 (hS.next i hi j hj) e1 (by omega)
   omega
 ·rintro⟨k,hk,e1,e2⟩
  have h1:(gt v k).1=3:=by rw[e2]
  have h2:(gt v k).2=n+1-1:=by rw[e2]
  have:=q k (hx k hk).1 (hx k hk).2 (hS.next i hi k hk) e1 (by omega)
  omega
theorem Quiet.rnds(o:FOK g l nx part bu){S:Int→Prop}(hS:Sees l nx part S){v:List Stp}{b:List Bool}(bu':Int):∀ (f:Nat) (n:Int) (t:Int),0≤n→Quiet l.length S v b n→(rnds g l nx part bu' f (n+1) v b t).2=(v,b)
 | 0,_,_,_,_=>rfl
 | f+1,n,t,n0,q=>by
  have hd:=q.none o hS n0
  have e1:rV g l nx part v b (n+1)=v:=by unfold rV;rw[hd];rfl
  have e2:rB g l nx part v b (n+1)=b:=by unfold rB;rw[hd];rfl
  rw[Go.Proofs.YtnaefnajkaohgaaGreatDoor.rnds,e1,e2]
  split
  ·exact Quiet.rnds o hS bu' f (n+1) _ (by omega) fun k k0 k1 s e h=>by have:=q k k0 k1 s e h;omega
  ·rfl
theorem grt_ge(v:List Stp)(b:List Bool):∀ (k:Nat) (j:Int),0≤j→j<k→gt b j=false→(gt v j).1≠2→(gt v j).2≤grt v b k
 | 0,j,j0,j1,_,_=>by omega
 | k+1,j,j0,j1,h1,h2=>by
  rw[grt]
  by_cases e:j=(k:Int)
  ·subst e
   rw[if_pos ⟨h1,h2⟩];omega
  ·have:=grt_ge v b k j j0 (by omega) h1 h2
   split<;>omega
theorem rnds_agr(o:FOK g l nx part bu){S:Int→Prop}(hS:Sees l nx part S)(bu':Int):∀ (f:Nat) (n:Int) (v v':List Stp) (b b':List Bool) (t t':Int),0≤n→Agr l.length S v b v' b' →
  Agr l.length S (rnds g l nx part bu' f n v b t).2.1 (rnds g l nx part bu' f n v b t).2.2 (rnds g l nx part bu' f n v' b' t').2.1 (rnds g l nx part bu' f n v' b' t').2.2
 | 0,n,v,v',b,b',t,t',_,h=>h
 | f+1,n,v,v',b,b',t,t',n0,h=>by
  have hr:=round_agr o hS h n
  rw[rnds,rnds]
  generalize rV g l nx part v b n=V at *
  generalize rB g l nx part v b n=B at *
  generalize rV g l nx part v' b' n=V' at *
  generalize rB g l nx part v' b' n=B' at *
  by_cases c:n≤grt V B v.length∧n<4000
  ·by_cases c':n≤grt V' B' v'.length∧n<4000
   ·rw[if_pos c,if_pos c']
    exact rnds_agr o hS bu' f (n+1) V V' B B' _ _ (by omega) hr
   ·have q':Quiet l.length S V' B' n:=fun k k0 k1 _ e h2=>by
     have:=grt_ge V' B' v'.length k k0 (by rw[h.vl'];exact k1) e h2
     omega
    rw[if_pos c,if_neg c',(q'.agr hr.symm).rnds o hS bu' f n _ n0]
    exact hr
  ·have q:Quiet l.length S V B n∨¬ n<4000:=by
    by_cases c2:n<4000
    ·exact .inl fun k k0 k1 _ e h2=>by
      have:=grt_ge V B v.length k k0 (by rw[h.vl];exact k1) e h2
      omega
    ·exact .inr c2
   by_cases c':n≤grt V' B' v'.length∧n<4000
   ·rw[if_neg c,if_pos c',((q.resolve_right (fun h=>h c'.2)).agr hr).rnds o hS bu' f n _ n0]
    exact hr
   ·rw[if_neg c,if_neg c']
    exact hr
def rep(n:Nat):List Bool:=List.replicate n false
theorem rep_len(n:Nat):(rep n).length=n:=by simp[rep]
theorem fillR_rep(o:FOK g l nx part bu)(bu':Int){v:List Stp}(hv:v.length=l.length):(fillR g l nx part bu' v (rep l.length)).2.2=rep l.length:=by
 have hb:=rep_len l.length
 obtain⟨m1,m2⟩:=mark_out o hb
 obtain⟨⟨r1,r2⟩,r3⟩:=rnds_out o bu' 4001 0 v (ptw (rep l.length) (fun _=>true) part) 0 hv m1
 obtain⟨f1,f2⟩:=fin2_out o r1 r2
 have h1:=(fillR_out o bu' hv hb).1.2
 refine gt_ext (by rw[h1,hb]) fun j j0 j1=>?_
 rw[h1]at j1
 have hf:gt (rep l.length) j=false:=gt_rep j0 (by omega)
 rw[hf]
 unfold fillR
 dsimp only
 rw[(f2 j j0 j1).2]
 split
 ·rfl
 ·rename_i hj
  rw[(r3 j j0 j1 hj).2,m2 j j0 j1,if_neg hj,hf]
theorem fillR_agr(o:FOK g l nx part bu){S:Int→Prop}(hS:Sees l nx part S)(bu':Int){v v':List Stp}(hv:v.length=l.length)(hv':v'.length=l.length)(h:∀ k:Int,0≤k→k<l.length→S k→k ∉ part→gt v k=gt v' k) :
  ∀ k:Int,0≤k→k<l.length→S k→gt (fillR g l nx part bu' v (rep l.length)).2.1 k=gt (fillR g l nx part bu' v' (rep l.length)).2.1 k:=by
 have hb:=rep_len l.length
 obtain⟨m1,m2⟩:=mark_out o hb
 have h0:Agr l.length S v (ptw (rep l.length) (fun _=>true) part) v' (ptw (rep l.length) (fun _=>true) part):=⟨hv,m1,hv',m1,fun _ _ _ _=>rfl,fun k k0 k1 s e=>by
  rw[m2 k k0 k1]at e
  split at e
  ·cases e
  ·rename_i hk
   exact h k k0 k1 s hk⟩
 have hr:=rnds_agr o hS bu' 4001 0 v v' _ _ 0 0 (by omega) h0
 obtain⟨_,r3⟩:=rnds_out o bu' 4001 0 v (ptw (rep l.length) (fun _=>true) part) 0 hv m1
 obtain⟨_,f2⟩:=fin2_out o hr.vl hr.bl
 obtain⟨_,f2'⟩:=fin2_out o hr.vl' hr.bl'
 intro k k0 k1 s
 unfold fillR
 dsimp only
 rw[(f2 k k0 k1).1,(f2' k k0 k1).1,← hr.eb k k0 k1 s]
 by_cases c:k∈part∧gt (rnds g l nx part bu' 4001 0 v (ptw (rep l.length) (fun _=>true) part) 0).2.2 k=true
 ·rw[if_pos c,if_pos c]
 ·rw[if_neg c,if_neg c]
  refine hr.ev k k0 k1 s ?_
  by_cases hk:k∈part
  ·have:=fun e=>c ⟨hk,e⟩
   simpa using this
  ·rw[(r3 k k0 k1 hk).2,m2 k k0 k1,if_neg hk]
   exact gt_rep k0 (by omega)
end
section
variable{g:Game}{l:List Pos}{m:List Int}
theorem next_lev(hg:GameOK g)(hv:MVal g m)(hc:Closed2 g l){i:Int}(i0:0≤i)(i1:i<l.length):∀ k∈gt (nextI g l) i,levL m (gt l k)≤levL m (gt l i):=fun k hk=>by
 rw[(nextI_in hc i0 i1).1]at hk
 obtain⟨q,hq,rfl⟩:=List.mem_map.1 hk
 have hmv:=mvL_mem.1 hq
 have hql:=hc.cl _ (gt_mem i0 i1) q hmv
 rw[(findP_gt hql).2.2]
 exact move_lev hg hv (hc.ok _ (gt_mem i0 i1)) hmv
theorem sees(hg:GameOK g)(hv:MVal g m)(hc:Closed2 g l)(n:Int):Sees l (nextI g l) (filt m l n) fun k=>levL m (gt l k)≤n:=
 ⟨fun i hi=>by rw[(mem_filt.1 hi).2];exact Int.le_refl _,fun i hi k hk=>by
  obtain⟨⟨i0,i1⟩,e⟩:=mem_filt.1 hi
  have:=next_lev hg hv hc i0 i1 k hk
  omega⟩
noncomputable def fillsV(g:Game)(l:List Pos)(bu:Int):List (List Int)→List Stp→List Stp
 | [],v=>v
 | p::ps,v=>fillsV g l bu ps (fillR g l (nextI g l) p bu v (rep l.length)).2.1
theorem mkR_fills(hg:GameOK g)(hc:Closed2 g l){bu:Int}(hb:1≤bu∧bu≤9223372036854775807):∀ (ps:List (List Int)) (_:∀ p∈ps,p∈cutL m l) (v:List Stp) (t:Int),v.length=l.length→(mkR g l (nextI g l) bu ps v (rep l.length) t).2.1=fillsV g l bu ps v
 | [],_,v,t,hv=>rfl
 | p::ps,h,v,t,hv=>by
  have o:=fok hg hc hb (h p (by simp))
  rw[mkR,fillsV,fillR_rep o bu hv]
  exact mkR_fills hg hc hb ps (fun q hq=>h q (by simp[hq])) _ _ (fillR_out o bu hv (rep_len _)).1.1
theorem fills_agr(hg:GameOK g)(hv:MVal g m)(hc:Closed2 g l){bu:Int}(hb:1≤bu∧bu≤9223372036854775807):∀ (ns:List Int),SrtI ns→(∀ n∈ns,n∈lvls m l)→∀ (v v':List Stp),v.length=l.length→v'.length=l.length →
  (∀ k:Int,0≤k→k<l.length→levL m (gt l k) ∉ ns→(∀ n∈ns,levL m (gt l k)<n)∧gt v k=gt v' k)→fillsV g l bu (ns.map (filt m l)) v=fillsV g l bu (ns.map (filt m l)) v'
 | [],_,_,v,v',e,e',h=>gt_ext (e.trans e'.symm) fun j j0 j1=>(h j j0 (by rw[← e];exact j1) (by simp)).2
 | n::ns,hs,hm,v,v',e,e',h=>by
  obtain⟨s1,s2⟩:=List.pairwise_cons.1 hs
  have o:=fok hg hc hb (List.mem_map.2 ⟨n,hm n (by simp),rfl⟩:filt m l n∈cutL m l)
  have hfl:=fillR_agr o (sees hg hv hc n) bu e e' fun k k0 k1 hk hnk=>by
   have hne:levL m (gt l k)≠n:=fun e=>hnk (mem_filt.2 ⟨⟨k0,k1⟩,e⟩)
   refine(h k k0 k1 fun hmem=>?_).2
   rcases List.mem_cons.1 hmem with h1|h1
   ·exact hne h1
   ·have:=s1 _ h1;omega
  rw[List.map_cons,fillsV,fillsV]
  refine fills_agr hg hv hc hb ns s2 (fun x hx=>hm x (by simp[hx])) _ _ (fillR_out o bu e (rep_len _)).1.1 (fillR_out o bu e' (rep_len _)).1.1 fun k k0 k1 hk=>?_
  by_cases hn:levL m (gt l k)=n
  ·exact⟨fun x hx=>by rw[hn];exact s1 x hx,hfl k k0 k1 (by omega)⟩
  ·have h2:=h k k0 k1 (by simp[hn,hk])
   have h3:=h2.1 n (by simp)
   exact⟨fun x hx=>h2.1 x (by simp[hx]),hfl k k0 k1 (by omega)⟩
theorem fills_made(hg:GameOK g)(hv:MVal g m)(hc:Closed2 g l){bu:Int}(hb:1≤bu∧bu≤9223372036854775807){v:List Stp}(e:v.length=l.length):fillsV g l bu (cutL m l) v=(mkT g l m bu).2.1:=by
 have h1:=mkR_fills hg hc hb (cutL m l) (fun p hp=>hp) (List.replicate l.length (2,0)) 0 (by simp)
 unfold mkT
 unfold rep at h1
 rw[h1]
 refine fills_agr hg hv hc hb (lvls m l) (srt_srtI _) (fun n hn=>hn) _ _ e (by simp) fun k k0 k1 hk=>?_
 exact absurd (mem_lvls.2 ⟨k,k0,k1,rfl⟩) hk
end
end Go.Proofs.YtnaefnajkaohgaaGreatDoor
