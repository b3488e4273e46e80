/- Part 27 of the proof of skewer.skewerlaw15.TableRefuses. -/
import Derived.Test.YtnaefnajkaohgaaGreatDoorA26
set_option linter.all false
namespace Go.Proofs.YtnaefnajkaohgaaGreatDoor
open Go Go.AL Classical
set_option maxRecDepth 10000
set_option maxHeartbeats 1000000
theorem XLoopN.s{T:Tab}{n:Nat}{live:List Nat}{a:IR}{s s':St}{K:OutP}(hs:s=s')(h:XLoopN T n live a s' K .mk):XLoopN T n live a s K .mk:=by subst hs;exact h
theorem XLoop.s{T:Tab}{live:List Nat}{a:IR}{s s':St}{K:OutP}(hs:s=s')(h:XLoop T live a s' K .mk):XLoop T live a s K .mk:=by subst hs;exact h
@[simp] theorem closed_aggU(l:List Int):closed (.agg (cl fU l))=true:=by simp[closed_agg]
theorem cl_U(l:List Int):cl fU l=l.map fun n=>D.val (.int .u8 n):=by
 rw[cl_def]
 induction l with
 | nil=>rfl
 | cons a r ih=>simp[← ih]
@[simp] theorem oA_U{l:List Int}{k:Nat}{P:D→Prop}:oA (cl fU l)[k]? P .mk=(k<l.length∧P (.val (.int .u8 (gt l k)))):=by
 rw[cl_U]
 by_cases h:k<l.length
 ·simp[h,gt]
 ·simp[h]
@[simp] theorem at_U{l:List Int}{k:Nat}(h:k<(cl fU l).length):(cl fU l)[k] = .val (.int .u8 (gt l k)):=by
 have h':k<l.length:=by simpa using h
 simp[cl_U,gt,h']
theorem f59(g:Game)(hg:GameOK g)(l:List Int)(hl:l.length=18)(h:∀ n∈l,0≤n∧n<256) :
  Wf T 59 [dG g,.agg (cl fU l)] [] (Ey dP (PosOK g)):=by
 have hb:=hg.board.size
 have hk:=hg.kinds
 have hr:=hg.rights
 have h4:=shl_small hr.1 (by omega)
 have h5:=pow_small hr.1 (by omega)
 have h6:(0:Int)<2 ^ g.rights.toNat:=Int.pow_pos (by decide)
 have hu:∀ k:Nat,k<18→0≤gt l k∧gt l k<256:=fun k hk=>h _ (gt_mem (by omega) (by omega))
 have hw:∀ k:Nat,k<18→IntKind.i64.wrap (gt l k)=gt l k:=fun k hk=>by
  have:=hu k hk
  exact wrapI64 ⟨by omega,by omega⟩
 have hw16:=hw 16 (by omega)
 have hw17:=hw 17 (by omega)
 have hu16:=hu 16 (by omega)
 have hu17:=hu 17 (by omega)
 simp at hw16 hw17 hu16 hu17
 have r16:=remI_eq (a:=gt l 16) (b:=2 ^ g.rights.toNat) hu16.1
 have m16:=Int.emod_nonneg (gt l 16) (show(2:Int) ^ g.rights.toNat≠0 by omega)
 have n16:=Int.emod_lt_of_pos (gt l 16) h6
 have r17:=remI_eq (a:=gt l 17) (b:=2) hu17.1
 have w17:IntKind.i64.wrap (remI (gt l 17) 2)=remI (gt l 17) 2:=wrapI64 ⟨by omega,by omega⟩
 have hR:0≤remI (gt l 16) (2 ^ g.rights.toNat)∧remI (gt l 16) (2 ^ g.rights.toNat)<2 ^ g.rights.toNat:=by omega
 have hS:0≤remI (gt l 17) 2∧remI (gt l 17) 2≤1:=by omega
 refine Wf.x (fn:=F59) rfl (by simp[F59]) ?_
 simp[F59,h4,hl,hw16,w17]
 generalize remI (gt l 16) (2 ^ g.rights.toNat)=R at *
 generalize remI (gt l 17) 2=S at *
 (with_reducible repeat' first|(first|refine Xy ?_|refine Xz ?_|refine Xu ?_|refine Xv ?_)<;>try simp[h4,hl,hw16,w17]|(first|refine Xa (fun h h'=>?_) (fun h=>?_)|(first|refine Xd ?_ ?_|refine Xo ?_ ?_|refine Xb ?_ ?_)<;>intro h)<;>(try simp[h,h4,hl,hw16,w17])<;>(try (exfalso;omega))|refine Xg ?_|omega)
 refine XLoop.e ((0,List.replicate g.size.toNat 0):Int×List Int) (fun y=>[(2,.ptr 0 0 0),(3,.ptr 1 0 0),(4,.ptr 2 0 0),(5,.ptr 4 0 0),(6,.i y.1)]) (fun y=>[.row 41 0 g.cells,.row 30 0 (cl fU l),.row 44 0 [.emp,.emp,.emp,.i 0,.i 0],.row 3 0 (cl f1 y.2),.row 44 0 [.osl 3 0 1 0 g.size.toNat,.emp,.emp,.i R,.i S]]) (fun y=>0≤y.1∧y.1≤6∧y.2.length=g.size.toNat∧∀ x∈y.2,0≤x∧x≤2*g.kinds.length) (fun y=>6-y.1.toNat) ?_ ?_
 ·simp
  (with_reducible repeat' first|(first|refine Xy ?_|refine Xz ?_|refine Xu ?_|refine Xv ?_)<;>try simp|(first|refine Xa (fun h h'=>?_) (fun h=>?_)|(first|refine Xd ?_ ?_|refine Xo ?_ ?_|refine Xb ?_ ?_)<;>intro h)<;>(try simp[h])<;>(try (exfalso;omega))|refine Xg ?_|omega)
 rintro⟨i,cs⟩ ⟨i0,i1,i2,i3⟩
 dsimp only at i0 i1 i2 i3 ⊢
 have hmx:max i 0=i:=by omega
 by_cases hi:i<6
 ·have w1:IntKind.i64.wrap (gt l i)=gt l i:=by
   have:=hw i.toNat (by omega)
   rwa [Int.toNat_of_nonneg i0]at this
  have w2:IntKind.i64.wrap (gt l (6+i))=gt l (6+i):=by
   have:=hw (6+i.toNat) (by omega)
   rwa [show((6+i.toNat:Nat):Int)=6+i by omega]at this
  have u1:0≤gt l i:=by
   have:=hu i.toNat (by omega)
   rw[Int.toNat_of_nonneg i0]at this
   exact this.1
  have u2:0≤gt l (6+i):=by
   have:=hu (6+i.toNat) (by omega)
   rw[show((6+i.toNat:Nat):Int)=6+i by omega]at this
   exact this.1
  have r1:=remI_eq (a:=gt l i) (b:=g.size+1) u1
  have e1:=Int.emod_nonneg (gt l i) (show g.size+1≠0 by omega)
  have r2:=remI_eq (a:=gt l (6+i)) (b:=g.kinds.length) u2
  have e2:=Int.emod_nonneg (gt l (6+i)) (show(g.kinds.length:Int)≠0 by omega)
  have e3:=Int.emod_lt_of_pos (gt l (6+i)) (show(0:Int)<g.kinds.length by omega)
  have r3:=remI_eq (a:=i) (b:=2) i0
  simp[hl,hmx,hi,w1,w2]
  have hne:g.kinds≠[]:=by intro h;simp[h]at hk
  obtain⟨A,hA⟩:∃ A,remI (gt l i) (g.size+1)=A:=⟨_,rfl⟩
  obtain⟨B,hB⟩:∃ B,remI (gt l (6+i)) g.kinds.length=B:=⟨_,rfl⟩
  obtain⟨C,hC⟩:∃ B,remI i 2=B:=⟨_,rfl⟩
  rw[hA]at r1
  rw[hB]at r2
  rw[hC]at r3
  simp only[hA]
  (with_reducible repeat' first|(first|refine Xy ?_|refine Xz ?_|refine Xu ?_|refine Xv ?_)<;>try simp[hl,hmx,w1,w2,hA,hB,hC,hne]|(first|refine Xa (fun h h'=>?_) (fun h=>?_)|(first|refine Xd ?_ ?_|refine Xo ?_ ?_|refine Xb ?_ ?_)<;>intro h)<;>(try simp[h,hl,hmx,w1,w2,hA,hB,hC,hne])<;>(try (exfalso;omega))|refine Xg ?_|omega)
  ·(with_reducible repeat' first|(first|refine Xy ?_|refine Xz ?_|refine Xu ?_|refine Xv ?_)<;>try simp[hne]|(first|refine Xa (fun h h'=>?_) (fun h=>?_)|(first|refine Xd ?_ ?_|refine Xo ?_ ?_|refine Xb ?_ ?_)<;>intro h)<;>(try simp[h,hne])<;>(try (exfalso;omega))|refine Xg ?_|omega)
   refine LJ.e (i+1,pt cs A (1+2*B+C)) ?_
   dsimp only
   have hv:0≤1+2*B+C∧1+2*B+C≤2*g.kinds.length:=by omega
   refine⟨by omega,by omega,by omega,?_,?_⟩
   ·have:=pt_len (l:=cs) (n:=A) (v:=1+2*B+C) (by omega) (by omega)
    omega
   ·intro x hx
    rcases mem_pt hx with rfl|hx
    ·exact hv
    ·exact i3 x hx
  ·refine LJ.e (i+1,cs) ?_
   exact⟨by omega,by omega,by omega,i2,i3⟩
 simp[hi]
 have z0:HandOK g (List.replicate g.kinds.length 0):=⟨by simp,fun k hk hk2=>by
  have e:gt (List.replicate g.kinds.length (0:Int)) k=0:=by
   simp at hk2
   have:k.toNat<g.kinds.length:=by omega
   simp[gt,this]
  rw[e];omega⟩
 refine XLoop.un ?_
 refine XLoopN.s (by simp;rfl) ?_
 refine XLoopN.u ?_
 simp
 (with_reducible repeat' first|(first|refine Xy ?_|refine Xz ?_|refine Xu ?_|refine Xv ?_)<;>try simp|(first|refine Xa (fun h h'=>?_) (fun h=>?_)|(first|refine Xd ?_ ?_|refine Xo ?_ ?_|refine Xb ?_ ?_)<;>intro h)<;>(try simp[h])<;>(try (exfalso;omega))|refine Xg ?_|omega)
 refine XLoop.e ((0,List.replicate g.kinds.length 0):Int×List Int) (fun y=>[(2,.ptr 0 0 0),(3,.ptr 1 0 0),(4,.ptr 2 0 0),(5,.ptr 4 0 0),(8,.i 0),(9,.i y.1)]) (fun y=>[.row 41 0 g.cells,.row 30 0 (cl fU l),.row 44 0 [.emp,.emp,.emp,.i 0,.i 0],.row 3 0 (cl f1 cs),.row 44 0 [.osl 3 0 1 0 g.size.toNat,.osl 5 0 1 0 g.kinds.length,.emp,.i R,.i S],.row 3 0 (cl f1 y.2)]) (fun y=>0≤y.1∧y.1≤g.kinds.length∧HandOK g y.2) (fun y=>g.kinds.length-y.1.toNat) ?_ ?_
 ·simp
  exact z0
 rintro⟨i,h0⟩ ⟨i0,i1,ih⟩
 dsimp only at i0 i1 ih ⊢
 have hmx:max i 0=i:=by omega
 have hln:=ih.len
 by_cases hi:i<g.kinds.length
 ·have hi2:i<2:=by omega
  have w1:IntKind.i64.wrap (gt l (12+i))=gt l (12+i):=by
   have:=hw (12+i.toNat) (by omega)
   rwa [show((12+i.toNat:Nat):Int)=12+i by omega]at this
  have u1:0≤gt l (12+i):=by
   have:=hu (12+i.toNat) (by omega)
   rw[show((12+i.toNat:Nat):Int)=12+i by omega]at this
   exact this.1
  have r1:=remI_eq (a:=gt l (12+i)) (b:=3) u1
  by_cases hkeep:(gt g.kinds i).keep=true
  ·have hpl:∀ v,(pt h0 i v).length=h0.length:=fun v=>pt_len i0 (by omega)
   have hit:i.toNat<g.kinds.length:=by omega
   simp[hl,hmx,hi,hi2,hkeep,w1,hpl,hln,hit]
   (with_reducible repeat' first|(first|refine Xy ?_|refine Xz ?_|refine Xu ?_|refine Xv ?_)<;>try simp[hl,hmx,hi,hi2,hkeep,w1,hpl,hln,hit]|(first|refine Xa (fun h h'=>?_) (fun h=>?_)|(first|refine Xd ?_ ?_|refine Xo ?_ ?_|refine Xb ?_ ?_)<;>intro h)<;>(try simp[h,hl,hmx,hi,hi2,hkeep,w1,hpl,hln,hit])<;>(try (exfalso;omega))|refine Xg ?_|omega)
   ·refine LJ.e (i+1,pt (pt h0 i (remI (gt l (12+i)) 3)) i 8) ?_
    refine⟨by dsimp only;omega,by dsimp only;omega,by dsimp only;omega,?_⟩
    exact(ih.set i0 (by omega) ⟨by omega,by omega,fun _=>hkeep⟩).set i0 (by rw[pt_len i0 (by omega)];omega) ⟨by omega,by omega,fun _=>hkeep⟩
   ·refine LJ.e (i+1,pt h0 i (remI (gt l (12+i)) 3)) ?_
    exact⟨by dsimp only;omega,by dsimp only;omega,by dsimp only;omega,ih.set i0 (by omega) ⟨by omega,by omega,fun _=>hkeep⟩⟩
  ·simp[hl,hmx,hi,hi2,hkeep,w1]
   (with_reducible repeat' first|(first|refine Xy ?_|refine Xz ?_|refine Xu ?_|refine Xv ?_)<;>try simp[hl,hmx,hi,hi2,hkeep,w1]|(first|refine Xa (fun h h'=>?_) (fun h=>?_)|(first|refine Xd ?_ ?_|refine Xo ?_ ?_|refine Xb ?_ ?_)<;>intro h)<;>(try simp[h,hl,hmx,hi,hi2,hkeep,w1])<;>(try (exfalso;omega))|refine Xg ?_|omega)
   refine LJ.e (i+1,h0) ?_
   exact⟨by dsimp only;omega,by dsimp only;omega,by dsimp only;omega,ih⟩
 simp[hi]
 (with_reducible repeat' first|(first|refine Xy ?_|refine Xz ?_|refine Xu ?_|refine Xv ?_)<;>try simp[hi]|(first|refine Xa (fun h h'=>?_) (fun h=>?_)|(first|refine Xd ?_ ?_|refine Xo ?_ ?_|refine Xb ?_ ?_)<;>intro h)<;>(try simp[h,hi])<;>(try (exfalso;omega))|refine Xg ?_|omega)
 clear hi hmx i0 i1 hln
 rename HandOK g h0=>ok0
 refine XLoopN.s (by simp;rfl) ?_
 refine XLoopN.u ?_
 simp
 (with_reducible repeat' first|(first|refine Xy ?_|refine Xz ?_|refine Xu ?_|refine Xv ?_)<;>try simp|(first|refine Xa (fun h h'=>?_) (fun h=>?_)|(first|refine Xd ?_ ?_|refine Xo ?_ ?_|refine Xb ?_ ?_)<;>intro h)<;>(try simp[h])<;>(try (exfalso;omega))|refine Xg ?_|omega)
 refine XLoop.e ((0,List.replicate g.kinds.length 0):Int×List Int) (fun y=>[(2,.ptr 0 0 0),(3,.ptr 1 0 0),(4,.ptr 2 0 0),(5,.ptr 4 0 0),(8,.i 1),(9,.i y.1)]) (fun y=>[.row 41 0 g.cells,.row 30 0 (cl fU l),.row 44 0 [.emp,.emp,.emp,.i 0,.i 0],.row 3 0 (cl f1 cs),.row 44 0 [.osl 3 0 1 0 g.size.toNat,.osl 5 0 1 0 g.kinds.length,.osl 6 0 1 0 g.kinds.length,.i R,.i S],.row 3 0 (cl f1 h0),.row 3 0 (cl f1 y.2)]) (fun y=>0≤y.1∧y.1≤g.kinds.length∧HandOK g y.2) (fun y=>g.kinds.length-y.1.toNat) ?_ ?_
 ·simp
  exact z0
 rintro⟨i,h1⟩ ⟨i0,i1,ih⟩
 dsimp only at i0 i1 ih ⊢
 have hmx:max (2+i) 0=(2+i):=by omega
 have hln:=ih.len
 by_cases hi:i<g.kinds.length
 ·have hi2:i<2:=by omega
  have w1:IntKind.i64.wrap (gt l (12+(2+i)))=gt l (12+(2+i)):=by
   have:=hw (12+(2+i).toNat) (by omega)
   rwa [show((12+(2+i).toNat:Nat):Int)=12+(2+i)by omega]at this
  have u1:0≤gt l (12+(2+i)):=by
   have:=hu (12+(2+i).toNat) (by omega)
   rw[show((12+(2+i).toNat:Nat):Int)=12+(2+i)by omega]at this
   exact this.1
  have r1:=remI_eq (a:=gt l (12+(2+i))) (b:=3) u1
  by_cases hkeep:(gt g.kinds i).keep=true
  ·have hpl:∀ v,(pt h1 i v).length=h1.length:=fun v=>pt_len i0 (by omega)
   have hit:i.toNat<g.kinds.length:=by omega
   simp[hl,hmx,hi,hi2,hkeep,w1,hpl,hln,hit]
   (with_reducible repeat' first|(first|refine Xy ?_|refine Xz ?_|refine Xu ?_|refine Xv ?_)<;>try simp[hl,hmx,hi,hi2,hkeep,w1,hpl,hln,hit]|(first|refine Xa (fun h h'=>?_) (fun h=>?_)|(first|refine Xd ?_ ?_|refine Xo ?_ ?_|refine Xb ?_ ?_)<;>intro h)<;>(try simp[h,hl,hmx,hi,hi2,hkeep,w1,hpl,hln,hit])<;>(try (exfalso;omega))|refine Xg ?_|omega)
   ·refine LJ.e (i+1,pt (pt h1 i (remI (gt l (12+(2+i))) 3)) i 8) ?_
    refine⟨by dsimp only;omega,by dsimp only;omega,by dsimp only;omega,?_⟩
    exact(ih.set i0 (by omega) ⟨by omega,by omega,fun _=>hkeep⟩).set i0 (by rw[pt_len i0 (by omega)];omega) ⟨by omega,by omega,fun _=>hkeep⟩
   ·refine LJ.e (i+1,pt h1 i (remI (gt l (12+(2+i))) 3)) ?_
    exact⟨by dsimp only;omega,by dsimp only;omega,by dsimp only;omega,ih.set i0 (by omega) ⟨by omega,by omega,fun _=>hkeep⟩⟩
  ·simp[hl,hmx,hi,hi2,hkeep,w1]
   (with_reducible repeat' first|(first|refine Xy ?_|refine Xz ?_|refine Xu ?_|refine Xv ?_)<;>try simp[hl,hmx,hi,hi2,hkeep,w1]|(first|refine Xa (fun h h'=>?_) (fun h=>?_)|(first|refine Xd ?_ ?_|refine Xo ?_ ?_|refine Xb ?_ ?_)<;>intro h)<;>(try simp[h,hl,hmx,hi,hi2,hkeep,w1])<;>(try (exfalso;omega))|refine Xg ?_|omega)
   refine LJ.e (i+1,h1) ?_
   exact⟨by dsimp only;omega,by dsimp only;omega,by dsimp only;omega,ih⟩
 simp[hi]
 (with_reducible repeat' first|(first|refine Xy ?_|refine Xz ?_|refine Xu ?_|refine Xv ?_)<;>try simp[hi]|(first|refine Xa (fun h h'=>?_) (fun h=>?_)|(first|refine Xd ?_ ?_|refine Xo ?_ ?_|refine Xb ?_ ?_)<;>intro h)<;>(try simp[h,hi])<;>(try (exfalso;omega))|refine Xg ?_|omega)
 clear hi hmx i0 i1 hln
 rename HandOK g h1=>ok1
 refine XLoopN.s (by simp;rfl) ?_
 refine XLoopN.u ?_
 simp
 (with_reducible repeat' first|(first|refine Xy ?_|refine Xz ?_|refine Xu ?_|refine Xv ?_)<;>try simp|(first|refine Xa (fun h h'=>?_) (fun h=>?_)|(first|refine Xd ?_ ?_|refine Xo ?_ ?_|refine Xb ?_ ?_)<;>intro h)<;>(try simp[h])<;>(try (exfalso;omega))|refine Xg ?_|omega)
 exact Ey.i ⟨cs,h0,h1,R,S⟩ (by simp[i2,ok0.len,ok1.len,dP,Pos.cells]) rfl ⟨by simp only;omega,ok0,ok1,hR,hS,i3⟩
end Go.Proofs.YtnaefnajkaohgaaGreatDoor
