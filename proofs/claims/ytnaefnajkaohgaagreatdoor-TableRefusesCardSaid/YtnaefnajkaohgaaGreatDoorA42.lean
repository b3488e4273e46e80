/- Part 42 of the proof of skewer.skewerlaw15.TableRefuses. -/
import Derived.Test.YtnaefnajkaohgaaGreatDoorA41
set_option linter.all false
namespace Go.Proofs.YtnaefnajkaohgaaGreatDoor
open Go Go.AL Classical
set_option maxRecDepth 10000
set_option maxHeartbeats 16000000
@[simp] theorem slc_dProg(f:EnvF)(l:List Stp)(lo hi:Option X):slcO f 2 (dProg l) lo hi=(boundOf f lo 0).bind fun a=>(boundOf f hi l.length).bind fun h=>if 0≤a∧a≤h∧h≤l.length then some (dProg ((l.drop a.toNat).take (h.toNat-a.toNat)))else none:=by
 unfold dProg;rw[slc_sl,List.length_map];simp only[slc_map]
theorem part_one{n:Nat}{i:Int}(h:i<0∨n≤i):¬ PartOK n [i]:=fun hp=>by
 have:=hp 0 (by omega) (by simp)
 rw[prevP_0,show gt [i] 0=i from rfl]at this
 omega
theorem part_two{n:Nat}{i:Int}:¬ PartOK n [i,i]:=fun hp=>by
 have:=hp 1 (by omega) (by simp)
 rw[show prevP [i,i] 1=i from rfl,show gt [i,i] 1=i from rfl]at this
 omega
theorem f8(x:Big)(hx:BigOK x)(a0 a1 a2 a3 a4 a5:Int)(ha:∀ n∈[a0,a1,a2,a3,a4,a5],0≤n∧n<256)(n:Int)(hn : -9223372036854775808≤n∧n≤9223372036854775807):Wf T 8 [.agg x.cells,dW [a0,a1,a2,a3,a4,a5],.i n] [] (Is (.b true)):=by
 have hxl:x.cells.length=31:=by simp[Big.cells,Raw.cells,hx.len]
 have hxc:closedL x.cells=true:=by have:=closed_big x;simpa using this
 have c12:=f12 x hx
 generalize x.cells=xs at *
 have htk:xs.take 31=xs:=List.take_of_length_le (by omega)
 refine Wf.x (fn:=F8) rfl (by simp[F8]) ?_
 simp[F8,dW,hxl,htk]
 refine XCall.c rfl rfl (f11) (by simp) (by simp) ?_
 simp
 (with_reducible repeat' first|(first|refine Xy ?_|refine Xz ?_|refine Xu ?_|refine Xv ?_)<;>try simp[hxl,htk]|(first|refine Xa (fun h h'=>?_) (fun h=>?_)|(first|refine Xd ?_ ?_|refine Xo ?_ ?_|refine Xb ?_ ?_)<;>intro h)<;>(try simp[h,hxl,htk])<;>(try (exfalso;omega))|refine Xg ?_|omega)
 simp[hxl,htk]
 refine XCall.q rfl rfl c12 (by simp[hxc]) (fun y=>by obtain⟨g,p,b,l⟩:=y;cases b<;>simp[closedL]) ?_
 rintro⟨g,p,b,l⟩ ⟨hg,hp,hcl⟩
 cases b
 ·simp
 dsimp only at hg hp hcl
 have hc1:=hcl rfl
 have hc:=hc1.c2
 have h0:=hc1.len.1
 have h80:=hc1.len.2
 have c13:=f13 g hg a0 a1 a2 a3 a4 a5 ha
 simp only[dW,List.map]at c13
 simp
 refine XTCall.q rfl rfl rfl (c13) (by simp) (fun _=>by simp) ?_
 intro m hm
 simp
 refine XTCall.q rfl rfl rfl (f14 g hg l hc h0) (by simp) (fun _=>by simp) ?_
 intro v hv
 simp
 (with_reducible repeat' first|(first|refine Xy ?_|refine Xz ?_|refine Xu ?_|refine Xv ?_)<;>try simp|(first|refine Xa (fun h h'=>?_) (fun h=>?_)|(first|refine Xd ?_ ?_|refine Xo ?_ ?_|refine Xb ?_ ?_)<;>intro h)<;>(try simp[h])<;>(try (exfalso;omega))|refine Xg ?_|omega)
 ·
  refine XTCall.c rfl rfl (f18 g m l (-n) 150 (f42a g hg l hc h0 m (-n) (by omega))) (by simp) (by simp) ?_
  simp
  refine XTCall.r rfl rfl (f20 g l v.1 (dI [0]) (by simp) (-n) 150 (f45b g hg l hc h0 v.1 hv [0] (by simp) (-n) (.inl (by omega)))) (by simp) (by simp[flat,flatL]) (by simp) ?_
  simp
  (with_reducible repeat' first|(first|refine Xy ?_|refine Xz ?_|refine Xu ?_|refine Xv ?_)<;>try simp|(first|refine Xa (fun h h'=>?_) (fun h=>?_)|(first|refine Xd ?_ ?_|refine Xo ?_ ?_|refine Xb ?_ ?_)<;>intro h)<;>(try simp[h])<;>(try (exfalso;omega))|refine Xg ?_|omega)
  refine XTCall.r rfl rfl (f20 g l v.1 (dI [l.length]) (by simp) 1 150 (f45b g hg l hc h0 v.1 hv [l.length] (by simp) 1 (.inr (part_one (by omega))))) (by simp) (by simp[flat,flatL]) (by simp) ?_
  simp
  (with_reducible repeat' first|(first|refine Xy ?_|refine Xz ?_|refine Xu ?_|refine Xv ?_)<;>try simp|(first|refine Xa (fun h h'=>?_) (fun h=>?_)|(first|refine Xd ?_ ?_|refine Xo ?_ ?_|refine Xb ?_ ?_)<;>intro h)<;>(try simp[h])<;>(try (exfalso;omega))|refine Xg ?_|omega)
  refine XTCall.r rfl rfl (f20 g l v.1 (dI [l.length-1,l.length-1]) (by simp) 1 150 (f45b g hg l hc h0 v.1 hv [l.length-1,l.length-1] (by simp) 1 (.inr part_two))) (by simp) (by simp[flat,flatL]) (by simp) ?_
  simp
  (with_reducible repeat' first|(first|refine Xy ?_|refine Xz ?_|refine Xu ?_|refine Xv ?_)<;>try simp|(first|refine Xa (fun h h'=>?_) (fun h=>?_)|(first|refine Xd ?_ ?_|refine Xo ?_ ?_|refine Xb ?_ ?_)<;>intro h)<;>(try simp[h])<;>(try (exfalso;omega))|refine Xg ?_|omega)
  refine XTCall.c rfl rfl (f20 g l (v.1.take (l.length-1)) .emp (by simp) 1 70 (f45a g hg l hc h0 (v.1.take (l.length-1)) (by simp;omega) 1)) (by simp) (by simp) ?_
  simp
  (with_reducible repeat' first|(first|refine Xy ?_|refine Xz ?_|refine Xu ?_|refine Xv ?_)<;>try simp|(first|refine Xa (fun h h'=>?_) (fun h=>?_)|(first|refine Xd ?_ ?_|refine Xo ?_ ?_|refine Xb ?_ ?_)<;>intro h)<;>(try simp[h])<;>(try (exfalso;omega))|refine Xg ?_|omega)
  refine XTCall.c rfl rfl (f15 g m l (v.1.take (l.length-1)) 70 (f40a g hg l hc h0 m (v.1.take (l.length-1)) (by simp;omega))) (by simp) (by simp) ?_
  simp
  (with_reducible repeat' first|(first|refine Xy ?_|refine Xz ?_|refine Xu ?_|refine Xv ?_)<;>try simp|(first|refine Xa (fun h h'=>?_) (fun h=>?_)|(first|refine Xd ?_ ?_|refine Xo ?_ ?_|refine Xb ?_ ?_)<;>intro h)<;>(try simp[h])<;>(try (exfalso;omega))|refine Xg ?_|omega)
  refine XCall.r rfl rfl (f18 g m (l ++ [gt l (l.length-1)]) 1 70 (f42b g hg l hc h0 h80 m 1)) (by simp;unfold dPs;rw[List.map_append];rfl) (by simp[flat,flatL]) (by simp) ?_
  simp
  refine XCall.c rfl rfl (f17e 0 150 0 150) (by simp) (by simp) ?_
  simp
  refine XCall.c rfl rfl (f17e 0 150 0 150) (by simp) (by simp) ?_
  simp
  refine XCall.c rfl rfl (f17e 0 150 0 150) (by simp) (by simp) ?_
  simp
  refine XCall.c rfl rfl (f17e 0 150 0 150) (by simp) (by simp) ?_
  simp
  refine XCall.c rfl rfl (f17e 0 70 0 70) (by simp) (by simp) ?_
  simp
  refine XCall.c rfl rfl (f17e 0 70 0 70) (by simp) (by simp) ?_
  simp
 ·
  refine XTCall.c rfl rfl (f18 g m l (-n) 150 (f42a g hg l hc h0 m (-n) (by omega))) (by simp) (by simp) ?_
  simp
  refine XTCall.r rfl rfl (f20 g l v.1 (dI [0]) (by simp) (-n) 150 (f45b g hg l hc h0 v.1 hv [0] (by simp) (-n) (.inl (by omega)))) (by simp) (by simp[flat,flatL]) (by simp) ?_
  simp
  (with_reducible repeat' first|(first|refine Xy ?_|refine Xz ?_|refine Xu ?_|refine Xv ?_)<;>try simp|(first|refine Xa (fun h h'=>?_) (fun h=>?_)|(first|refine Xd ?_ ?_|refine Xo ?_ ?_|refine Xb ?_ ?_)<;>intro h)<;>(try simp[h])<;>(try (exfalso;omega))|refine Xg ?_|omega)
  refine XTCall.r rfl rfl (f20 g l v.1 (dI [n]) (by simp) 1 150 (f45b g hg l hc h0 v.1 hv [n] (by simp) 1 (.inr (part_one (by omega))))) (by simp) (by simp[flat,flatL]) (by simp) ?_
  simp
  (with_reducible repeat' first|(first|refine Xy ?_|refine Xz ?_|refine Xu ?_|refine Xv ?_)<;>try simp|(first|refine Xa (fun h h'=>?_) (fun h=>?_)|(first|refine Xd ?_ ?_|refine Xo ?_ ?_|refine Xb ?_ ?_)<;>intro h)<;>(try simp[h])<;>(try (exfalso;omega))|refine Xg ?_|omega)
  refine XTCall.r rfl rfl (f20 g l v.1 (dI [l.length-1,l.length-1]) (by simp) 1 150 (f45b g hg l hc h0 v.1 hv [l.length-1,l.length-1] (by simp) 1 (.inr part_two))) (by simp) (by simp[flat,flatL]) (by simp) ?_
  simp
  (with_reducible repeat' first|(first|refine Xy ?_|refine Xz ?_|refine Xu ?_|refine Xv ?_)<;>try simp|(first|refine Xa (fun h h'=>?_) (fun h=>?_)|(first|refine Xd ?_ ?_|refine Xo ?_ ?_|refine Xb ?_ ?_)<;>intro h)<;>(try simp[h])<;>(try (exfalso;omega))|refine Xg ?_|omega)
  refine XTCall.c rfl rfl (f20 g l (v.1.take (l.length-1)) .emp (by simp) 1 70 (f45a g hg l hc h0 (v.1.take (l.length-1)) (by simp;omega) 1)) (by simp) (by simp) ?_
  simp
  (with_reducible repeat' first|(first|refine Xy ?_|refine Xz ?_|refine Xu ?_|refine Xv ?_)<;>try simp|(first|refine Xa (fun h h'=>?_) (fun h=>?_)|(first|refine Xd ?_ ?_|refine Xo ?_ ?_|refine Xb ?_ ?_)<;>intro h)<;>(try simp[h])<;>(try (exfalso;omega))|refine Xg ?_|omega)
  refine XTCall.c rfl rfl (f15 g m l (v.1.take (l.length-1)) 70 (f40a g hg l hc h0 m (v.1.take (l.length-1)) (by simp;omega))) (by simp) (by simp) ?_
  simp
  (with_reducible repeat' first|(first|refine Xy ?_|refine Xz ?_|refine Xu ?_|refine Xv ?_)<;>try simp|(first|refine Xa (fun h h'=>?_) (fun h=>?_)|(first|refine Xd ?_ ?_|refine Xo ?_ ?_|refine Xb ?_ ?_)<;>intro h)<;>(try simp[h])<;>(try (exfalso;omega))|refine Xg ?_|omega)
  refine XCall.r rfl rfl (f18 g m (l ++ [gt l (l.length-1)]) 1 70 (f42b g hg l hc h0 h80 m 1)) (by simp;unfold dPs;rw[List.map_append];rfl) (by simp[flat,flatL]) (by simp) ?_
  simp
  refine XCall.c rfl rfl (f17e 0 150 0 150) (by simp) (by simp) ?_
  simp
  refine XCall.c rfl rfl (f17e 0 150 0 150) (by simp) (by simp) ?_
  simp
  refine XCall.c rfl rfl (f17e 0 150 0 150) (by simp) (by simp) ?_
  simp
  refine XCall.c rfl rfl (f17e 0 150 0 150) (by simp) (by simp) ?_
  simp
  refine XCall.c rfl rfl (f17e 0 70 0 70) (by simp) (by simp) ?_
  simp
  refine XCall.c rfl rfl (f17e 0 70 0 70) (by simp) (by simp) ?_
  simp
 ·
  refine XTCall.c rfl rfl (f18 g m l n 150 (f42a g hg l hc h0 m n (by omega))) (by simp) (by simp) ?_
  simp
  refine XTCall.r rfl rfl (f20 g l v.1 (dI [0]) (by simp) n 150 (f45b g hg l hc h0 v.1 hv [0] (by simp) n (.inl (by omega)))) (by simp) (by simp[flat,flatL]) (by simp) ?_
  simp
  (with_reducible repeat' first|(first|refine Xy ?_|refine Xz ?_|refine Xu ?_|refine Xv ?_)<;>try simp|(first|refine Xa (fun h h'=>?_) (fun h=>?_)|(first|refine Xd ?_ ?_|refine Xo ?_ ?_|refine Xb ?_ ?_)<;>intro h)<;>(try simp[h])<;>(try (exfalso;omega))|refine Xg ?_|omega)
  refine XTCall.r rfl rfl (f20 g l v.1 (dI [l.length]) (by simp) 1 150 (f45b g hg l hc h0 v.1 hv [l.length] (by simp) 1 (.inr (part_one (by omega))))) (by simp) (by simp[flat,flatL]) (by simp) ?_
  simp
  (with_reducible repeat' first|(first|refine Xy ?_|refine Xz ?_|refine Xu ?_|refine Xv ?_)<;>try simp|(first|refine Xa (fun h h'=>?_) (fun h=>?_)|(first|refine Xd ?_ ?_|refine Xo ?_ ?_|refine Xb ?_ ?_)<;>intro h)<;>(try simp[h])<;>(try (exfalso;omega))|refine Xg ?_|omega)
  refine XTCall.r rfl rfl (f20 g l v.1 (dI [l.length-1,l.length-1]) (by simp) 1 150 (f45b g hg l hc h0 v.1 hv [l.length-1,l.length-1] (by simp) 1 (.inr part_two))) (by simp) (by simp[flat,flatL]) (by simp) ?_
  simp
  (with_reducible repeat' first|(first|refine Xy ?_|refine Xz ?_|refine Xu ?_|refine Xv ?_)<;>try simp|(first|refine Xa (fun h h'=>?_) (fun h=>?_)|(first|refine Xd ?_ ?_|refine Xo ?_ ?_|refine Xb ?_ ?_)<;>intro h)<;>(try simp[h])<;>(try (exfalso;omega))|refine Xg ?_|omega)
  refine XTCall.c rfl rfl (f20 g l (v.1.take (l.length-1)) .emp (by simp) 1 70 (f45a g hg l hc h0 (v.1.take (l.length-1)) (by simp;omega) 1)) (by simp) (by simp) ?_
  simp
  (with_reducible repeat' first|(first|refine Xy ?_|refine Xz ?_|refine Xu ?_|refine Xv ?_)<;>try simp|(first|refine Xa (fun h h'=>?_) (fun h=>?_)|(first|refine Xd ?_ ?_|refine Xo ?_ ?_|refine Xb ?_ ?_)<;>intro h)<;>(try simp[h])<;>(try (exfalso;omega))|refine Xg ?_|omega)
  refine XTCall.c rfl rfl (f15 g m l (v.1.take (l.length-1)) 70 (f40a g hg l hc h0 m (v.1.take (l.length-1)) (by simp;omega))) (by simp) (by simp) ?_
  simp
  (with_reducible repeat' first|(first|refine Xy ?_|refine Xz ?_|refine Xu ?_|refine Xv ?_)<;>try simp|(first|refine Xa (fun h h'=>?_) (fun h=>?_)|(first|refine Xd ?_ ?_|refine Xo ?_ ?_|refine Xb ?_ ?_)<;>intro h)<;>(try simp[h])<;>(try (exfalso;omega))|refine Xg ?_|omega)
  refine XCall.r rfl rfl (f18 g m (l ++ [gt l (l.length-1)]) 1 70 (f42b g hg l hc h0 h80 m 1)) (by simp;unfold dPs;rw[List.map_append];rfl) (by simp[flat,flatL]) (by simp) ?_
  simp
  refine XCall.c rfl rfl (f17e 0 150 0 150) (by simp) (by simp) ?_
  simp
  refine XCall.c rfl rfl (f17e 0 150 0 150) (by simp) (by simp) ?_
  simp
  refine XCall.c rfl rfl (f17e 0 150 0 150) (by simp) (by simp) ?_
  simp
  refine XCall.c rfl rfl (f17e 0 150 0 150) (by simp) (by simp) ?_
  simp
  refine XCall.c rfl rfl (f17e 0 70 0 70) (by simp) (by simp) ?_
  simp
  refine XCall.c rfl rfl (f17e 0 70 0 70) (by simp) (by simp) ?_
  simp
 ·
  refine XTCall.c rfl rfl (f18 g m l n 150 (f42a g hg l hc h0 m n (by omega))) (by simp) (by simp) ?_
  simp
  refine XTCall.r rfl rfl (f20 g l v.1 (dI [0]) (by simp) n 150 (f45b g hg l hc h0 v.1 hv [0] (by simp) n (.inl (by omega)))) (by simp) (by simp[flat,flatL]) (by simp) ?_
  simp
  (with_reducible repeat' first|(first|refine Xy ?_|refine Xz ?_|refine Xu ?_|refine Xv ?_)<;>try simp|(first|refine Xa (fun h h'=>?_) (fun h=>?_)|(first|refine Xd ?_ ?_|refine Xo ?_ ?_|refine Xb ?_ ?_)<;>intro h)<;>(try simp[h])<;>(try (exfalso;omega))|refine Xg ?_|omega)
  refine XTCall.r rfl rfl (f20 g l v.1 (dI [n]) (by simp) 1 150 (f45b g hg l hc h0 v.1 hv [n] (by simp) 1 (.inr (part_one (by omega))))) (by simp) (by simp[flat,flatL]) (by simp) ?_
  simp
  (with_reducible repeat' first|(first|refine Xy ?_|refine Xz ?_|refine Xu ?_|refine Xv ?_)<;>try simp|(first|refine Xa (fun h h'=>?_) (fun h=>?_)|(first|refine Xd ?_ ?_|refine Xo ?_ ?_|refine Xb ?_ ?_)<;>intro h)<;>(try simp[h])<;>(try (exfalso;omega))|refine Xg ?_|omega)
  refine XTCall.r rfl rfl (f20 g l v.1 (dI [l.length-1,l.length-1]) (by simp) 1 150 (f45b g hg l hc h0 v.1 hv [l.length-1,l.length-1] (by simp) 1 (.inr part_two))) (by simp) (by simp[flat,flatL]) (by simp) ?_
  simp
  (with_reducible repeat' first|(first|refine Xy ?_|refine Xz ?_|refine Xu ?_|refine Xv ?_)<;>try simp|(first|refine Xa (fun h h'=>?_) (fun h=>?_)|(first|refine Xd ?_ ?_|refine Xo ?_ ?_|refine Xb ?_ ?_)<;>intro h)<;>(try simp[h])<;>(try (exfalso;omega))|refine Xg ?_|omega)
  refine XTCall.c rfl rfl (f20 g l (v.1.take (l.length-1)) .emp (by simp) 1 70 (f45a g hg l hc h0 (v.1.take (l.length-1)) (by simp;omega) 1)) (by simp) (by simp) ?_
  simp
  (with_reducible repeat' first|(first|refine Xy ?_|refine Xz ?_|refine Xu ?_|refine Xv ?_)<;>try simp|(first|refine Xa (fun h h'=>?_) (fun h=>?_)|(first|refine Xd ?_ ?_|refine Xo ?_ ?_|refine Xb ?_ ?_)<;>intro h)<;>(try simp[h])<;>(try (exfalso;omega))|refine Xg ?_|omega)
  refine XTCall.c rfl rfl (f15 g m l (v.1.take (l.length-1)) 70 (f40a g hg l hc h0 m (v.1.take (l.length-1)) (by simp;omega))) (by simp) (by simp) ?_
  simp
  (with_reducible repeat' first|(first|refine Xy ?_|refine Xz ?_|refine Xu ?_|refine Xv ?_)<;>try simp|(first|refine Xa (fun h h'=>?_) (fun h=>?_)|(first|refine Xd ?_ ?_|refine Xo ?_ ?_|refine Xb ?_ ?_)<;>intro h)<;>(try simp[h])<;>(try (exfalso;omega))|refine Xg ?_|omega)
  refine XCall.r rfl rfl (f18 g m (l ++ [gt l (l.length-1)]) 1 70 (f42b g hg l hc h0 h80 m 1)) (by simp;unfold dPs;rw[List.map_append];rfl) (by simp[flat,flatL]) (by simp) ?_
  simp
  refine XCall.c rfl rfl (f17e 0 150 0 150) (by simp) (by simp) ?_
  simp
  refine XCall.c rfl rfl (f17e 0 150 0 150) (by simp) (by simp) ?_
  simp
  refine XCall.c rfl rfl (f17e 0 150 0 150) (by simp) (by simp) ?_
  simp
  refine XCall.c rfl rfl (f17e 0 150 0 150) (by simp) (by simp) ?_
  simp
  refine XCall.c rfl rfl (f17e 0 70 0 70) (by simp) (by simp) ?_
  simp
  refine XCall.c rfl rfl (f17e 0 70 0 70) (by simp) (by simp) ?_
  simp
end Go.Proofs.YtnaefnajkaohgaaGreatDoor
