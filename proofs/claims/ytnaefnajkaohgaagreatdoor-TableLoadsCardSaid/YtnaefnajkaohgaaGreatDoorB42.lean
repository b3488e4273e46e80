/- Part 42 of the proof of skewer.skewerlaw15.TableLoads. -/
import Derived.Test.YtnaefnajkaohgaaGreatDoorB41
import Derived.Test.YtnaefnajkaohgaaGreatDoorB28
set_option linter.all false
namespace Go.Proofs.YtnaefnajkaohgaaGreatDoor
open Go Go.AL Classical
theorem gt_rep{α:Type}[Inhabited α]{n:Nat}{a:α}{k:Int}(k0:0≤k)(k1:k<n):gt (List.replicate n a) k=a:=by
 unfold gt
 rw[List.getD_eq_getElem?_getD,List.getElem?_replicate,if_pos (by omega)];rfl
noncomputable def mkT(g:Game)(l:List Pos)(m:List Int)(n:Int):Int×List Stp×List Bool:=mkR g l (nextI g l) n (cutL m l) (List.replicate l.length (2,0)) (List.replicate l.length false) 0
section
variable{g:Game}{l:List Pos}{m:List Int}{n k:Int}
theorem fok(hg:GameOK g)(hc:Closed2 g l)(hn:1≤n∧n≤9223372036854775807){p:List Int}(hp:p∈cutL m l):FOK g l (nextI g l) p n:=by
 obtain⟨p1,p2,p3,p4⟩:=cutL_in hp
 have:=hc.len
 exact⟨hg,hc.ok,hc.len,by simp[nextI],fun i i0 i1=>⟨(nextI_in hc i0 i1).2,by rw[(nextI_in hc i0 i1).1,List.length_map];have:=mvL_len hg (hc.ok _ (gt_mem i0 i1));omega⟩,p4,p1,by omega,hn⟩
theorem quo_in(hl:l.length≤4000){p:List Int}(hp:p∈cutL m l)(hn:1≤n):∀ i∈p,quoI i n=i / n∧0≤quoI i n:=fun i hi=>by
 have h:=(cutL_in hp).2.2.2 i hi
 have e:=quoI_eq (b:=n) h.1 (by omega) (by omega)
 rw[e]
 exact⟨rfl,Int.ediv_nonneg h.1 (by omega)⟩
theorem coarse_mul(hl:l.length≤4000){p:List Int}(hp:p∈cutL m l)(hn:1≤n)(hk:1≤k):Coarse p n (n*k):=fun i hi j hj e=>by
 have hnk:1≤n*k:=Int.mul_le_mul hn hk (by omega) (by omega)
 rw[(quo_in hl hp hnk i hi).1,(quo_in hl hp hnk j hj).1]
 rw[(quo_in hl hp hn i hi).1,(quo_in hl hp hn j hj).1]at e
 rw[← Int.ediv_ediv_of_nonneg (by omega),← Int.ediv_ediv_of_nonneg (by omega),e]
theorem quo_big(hl:l.length≤80){p:List Int}(hp:p∈cutL m l):∀ i∈p,quoI i 4000=0:=fun i hi=>by
 have h:=(cutL_in hp).2.2.2 i hi
 rw[(quo_in (by omega) hp (by omega) i hi).1]
 omega
theorem mkT_mul(hl:l.length≤4000)(hn:1≤n)(hk:1≤k):(mkT g l m (n*k)).1≤(mkT g l m n).1:=by
 have hnk:1≤n*k:=Int.mul_le_mul hn hk (by omega) (by omega)
 exact mkR_le (cutL m l) (fun p hp b=>(lds_le (coarse_mul hl hp hn hk) (fun i hi=>(quo_in hl hp hn i hi).2) (fun i hi=>(quo_in hl hp hnk i hi).2) p.length (Nat.le_refl _)).1) _ _ 0 0 (Int.le_refl _)
theorem mkT_big(hl:l.length≤80)(hn:1≤n):(mkT g l m 4000).1≤(mkT g l m n).1:=by
 exact mkR_le (cutL m l) (fun p hp b=>(lds_le (fun i hi j hj _=>by rw[quo_big hl hp i hi,quo_big hl hp j hj]) (fun i hi=>(quo_in (by omega) hp hn i hi).2) (fun i hi=>by rw[quo_big hl hp i hi];exact Int.le_refl _) p.length (Nat.le_refl _)).1) _ _ 0 0 (Int.le_refl _)
theorem mkT_v(n n':Int):(mkT g l m n).2=(mkT g l m n').2:=mkR_vb n n' _ _ _ 0 0
theorem mkT_bound(hg:GameOK g)(hc:Closed2 g l)(hl:l.length≤80):(mkT g l m 4000).1≤(cutL m l).length*(l.length+3:Int):=by
 have h:=mkR_bound (g:=g) (l:=l) (nx:=nextI g l) (bu:=4000) (cutL m l) (fun p hp=>⟨fok hg hc (by omega) hp,fun b=>by
  rcases lds_one (b:=b) (quo_big hl hp) p.length (Nat.le_refl _)with h|h<;>omega⟩) (cutL_apart m l) (List.replicate l.length (2,0)) (List.replicate l.length false) 0 ?_ ?_
 ·have h2:((cutL m l).length:Int)*((l.length:Int)+1)≤(cutL m l).length*(l.length+3:Int):=Int.mul_le_mul_of_nonneg_left (by omega) (by omega)
  unfold mkT
  omega
 ·refine⟨by simp,by simp,fun i i0 i1 h1 h2=>?_⟩
  rw[gt_rep i0 i1]at h2
  exact absurd rfl h2
 ·intro p hp i hi
  have:=(cutL_in hp).2.2.2 i hi
  rw[gt_rep this.1 this.2]
end
end Go.Proofs.YtnaefnajkaohgaaGreatDoor
