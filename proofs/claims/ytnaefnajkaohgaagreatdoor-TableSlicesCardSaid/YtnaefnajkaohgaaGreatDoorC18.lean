/- Part 18 of the proof of skewer.skewerlaw15.TableSlices. -/
import Derived.Test.YtnaefnajkaohgaaGreatDoorC17
import Derived.Test.YtnaefnajkaohgaaGreatDoorC16
set_option linter.all false
namespace Go.Proofs.YtnaefnajkaohgaaGreatDoor
open Go Go.AL Classical
set_option maxRecDepth 10000
set_option maxHeartbeats 1000000
@[simp] theorem closed_bD(n:Int)(nx:List (List Int))(tn:List Int):closed (bD n nx tn)=true:=by simp[bD]
theorem f104(w hh0 c:Int)(hw:0≤w∧w<256)(hh:0≤hh0∧hh0<256)(hc:0≤c∧c<256):Wf T 104 [.val (.int .u8 w),.val (.int .u8 hh0),.val (.int .u8 c)] [] (Ey (fun x:Int×List (List Int)×List Int=>bD x.1 x.2.1 x.2.2) fun x=>BoardOK (mkB x.1 x.2.1 x.2.2)):=by
 have w1:=remI_eq (a:=w) (b:=3) hw.1
 have h1:=remI_eq (a:=hh0) (b:=3) hh.1
 have w2:IntKind.i64.wrap (remI w 3)=remI w 3:=wrapI64 ⟨by omega,by omega⟩
 have h2:IntKind.i64.wrap (remI hh0 3)=remI hh0 3:=wrapI64 ⟨by omega,by omega⟩
 have c2:IntKind.i64.wrap c=c:=wrapI64 ⟨by omega,by omega⟩
 refine Yg F104 ?_
 simp[F104,w2,h2]
 (with_reducible repeat' first|refine Xk ?_<;>try simp|refine Xs ?_ ?_<;>intro h<;>(try intro h')<;>(try simp[h])<;>(try omega)|refine Xg ?_|omega)
 obtain⟨n,nx,tn,hg,hb⟩:=f149 (1+remI w 3) (1+remI hh0 3) (by omega) (by omega)
 have hn:1≤n∧n≤9:=hb.size
 refine XCall.c rfl rfl hg (by simp) (by simp[bD]) ?_
 simp[bD,c2]
 (with_reducible repeat' first|refine Xk ?_<;>try simp|refine Xs ?_ ?_<;>intro h<;>(try intro h')<;>(try simp[h])<;>(try omega)|refine Xg ?_|omega)
 ·rw[c2]
  have hr:=remI_eq (a:=c) (b:=n) hc.1
  have hm1:=Int.emod_nonneg c (show n≠0 by omega)
  have hm2:=Int.emod_lt_of_pos c (show 0<n by omega)
  refine Yv (f150 n nx tn hb (remI c n) (by omega)) fun x hx=>?_
  simp
  simp[bD]
  exact Ey.i (n,x,tn) rfl rfl hx
 ·exact Ey.i (n,nx,tn) rfl rfl hb
set_option maxRecDepth 10000
set_option maxHeartbeats 1000000
theorem XLoopN.s{T:Tab}{n:Nat}{live:List Nat}{a:IR}{s s':St}{K:OutP}(hs:s=s')(h:XLoopN T n live a s' K .mk):XLoopN T n live a s K .mk:=by subst hs;exact h
theorem XLoop.s{T:Tab}{live:List Nat}{a:IR}{s s':St}{K:OutP}(hs:s=s')(h:XLoop T live a s' K .mk):XLoop T live a s K .mk:=by subst hs;exact h
theorem cl_U(l:List Int):cl fU l=l.map fun n=>D.val (.int .u8 n):=by
 rw[cl_def]
 induction l with
 | nil=>rfl
 | cons a r ih=>simp[← ih]
@[simp] theorem oA_U{l:List Int}{k:Nat}{P:D→Prop}:oA (cl fU l)[k]? P .mk=(k<l.length∧P (.val (.int .u8 (gt l k)))):=by
 rw[cl_U]
 by_cases h:k<l.length
 ·simp[h,gt]
 ·simp[h]
@[simp] theorem at_U{l:List Int}{k:Nat}(h:k<(cl fU l).length):(cl fU l)[k] = .val (.int .u8 (gt l k)):=by
 have h':k<l.length:=by simpa using h
 simp[cl_U,gt,h']
theorem f59(g:Game)(hg:GameOK g)(l:List Int)(hl:l.length=18)(h:∀ n∈l,0≤n∧n<256) :
  Wf T 59 [dG g,.agg (cl fU l)] [] (Ey dP (PosOK g)):=by
 have hb:=hg.board.size
 have hk:=hg.kinds
 have hr:=hg.rights
 have h4:=shl_small hr.1 (by omega)
 have h5:=pow_small hr.1 (by omega)
 have h6:(0:Int)<2 ^ g.rights.toNat:=Int.pow_pos (by decide)
 have hu:∀ k:Nat,k<18→0≤gt l k∧gt l k<256:=fun k hk=>h _ (gt_mem (by omega) (by omega))
 have hw:∀ k:Nat,k<18→IntKind.i64.wrap (gt l k)=gt l k:=fun k hk=>by
  have:=hu k hk
  exact wrapI64 ⟨by omega,by omega⟩
 have hw16:=hw 16 (by omega)
 have hw17:=hw 17 (by omega)
 have hu16:=hu 16 (by omega)
 have hu17:=hu 17 (by omega)
 simp at hw16 hw17 hu16 hu17
 have r16:=remI_eq (a:=gt l 16) (b:=2 ^ g.rights.toNat) hu16.1
 have m16:=Int.emod_nonneg (gt l 16) (show(2:Int) ^ g.rights.toNat≠0 by omega)
 have n16:=Int.emod_lt_of_pos (gt l 16) h6
 have r17:=remI_eq (a:=gt l 17) (b:=2) hu17.1
 have w17:IntKind.i64.wrap (remI (gt l 17) 2)=remI (gt l 17) 2:=wrapI64 ⟨by omega,by omega⟩
 have hR:0≤remI (gt l 16) (2 ^ g.rights.toNat)∧remI (gt l 16) (2 ^ g.rights.toNat)<2 ^ g.rights.toNat:=by omega
 have hS:0≤remI (gt l 17) 2∧remI (gt l 17) 2≤1:=by omega
 refine Yg F59 ?_
 simp[F59,h4,hl,hw16,w17]
 generalize remI (gt l 16) (2 ^ g.rights.toNat)=R at *
 generalize remI (gt l 17) 2=S at *
 (with_reducible repeat' first|refine Xk ?_<;>try simp[h4,hl,hw16,w17]|refine Xs ?_ ?_<;>intro h<;>(try intro h')<;>(try simp[h,h4,hl,hw16,w17])<;>(try omega)|refine Xg ?_|omega)
 refine XLoop.e ((0,List.replicate g.size.toNat 0):Int×List Int) (fun y=>[(2,.ptr 0 0 0),(3,.ptr 1 0 0),(4,.ptr 2 0 0),(5,.ptr 4 0 0),(6,.i y.1)]) (fun y=>[.row 41 0 g.cells,.row 30 0 (cl fU l),.row 44 0 [.emp,.emp,.emp,.i 0,.i 0],.row 3 0 (cl f1 y.2),.row 44 0 [.osl 3 0 1 0 g.size.toNat,.emp,.emp,.i R,.i S]]) (fun y=>0≤y.1∧y.1≤6∧y.2.length=g.size.toNat∧∀ x∈y.2,0≤x∧x≤2*g.kinds.length) (fun y=>6-y.1.toNat) ?_ ?_
 ·simp
  (with_reducible repeat' first|refine Xk ?_<;>try simp|refine Xs ?_ ?_<;>intro h<;>(try intro h')<;>(try simp[h])<;>(try omega)|refine Xg ?_|omega)
 rintro⟨i,cs⟩ ⟨i0,i1,i2,i3⟩
 dsimp only at i0 i1 i2 i3 ⊢
 have hmx:max i 0=i:=by omega
 by_cases hi:i<6
 ·have w1:IntKind.i64.wrap (gt l i)=gt l i:=by
   have:=hw i.toNat (by omega)
   rwa [Int.toNat_of_nonneg i0]at this
  have w2:IntKind.i64.wrap (gt l (6+i))=gt l (6+i):=by
   have:=hw (6+i.toNat) (by omega)
   rwa [show((6+i.toNat:Nat):Int)=6+i by omega]at this
  have u1:0≤gt l i:=by
   have:=hu i.toNat (by omega)
   rw[Int.toNat_of_nonneg i0]at this
   exact this.1
  have u2:0≤gt l (6+i):=by
   have:=hu (6+i.toNat) (by omega)
   rw[show((6+i.toNat:Nat):Int)=6+i by omega]at this
   exact this.1
  have r1:=remI_eq (a:=gt l i) (b:=g.size+1) u1
  have e1:=Int.emod_nonneg (gt l i) (show g.size+1≠0 by omega)
  have r2:=remI_eq (a:=gt l (6+i)) (b:=g.kinds.length) u2
  have e2:=Int.emod_nonneg (gt l (6+i)) (show(g.kinds.length:Int)≠0 by omega)
  have e3:=Int.emod_lt_of_pos (gt l (6+i)) (show(0:Int)<g.kinds.length by omega)
  have r3:=remI_eq (a:=i) (b:=2) i0
  simp[hl,hmx,hi,w1,w2]
  have hne:g.kinds≠[]:=by intro h;simp[h]at hk
  obtain⟨A,hA⟩:∃ A,remI (gt l i) (g.size+1)=A:=⟨_,rfl⟩
  obtain⟨B,hB⟩:∃ B,remI (gt l (6+i)) g.kinds.length=B:=⟨_,rfl⟩
  obtain⟨C,hC⟩:∃ B,remI i 2=B:=⟨_,rfl⟩
  rw[hA]at r1
  rw[hB]at r2
  rw[hC]at r3
  simp only[hA]
  (with_reducible repeat' first|refine Xk ?_<;>try simp[hl,hmx,w1,w2,hA,hB,hC,hne]|refine Xs ?_ ?_<;>intro h<;>(try intro h')<;>(try simp[h,hl,hmx,w1,w2,hA,hB,hC,hne])<;>(try omega)|refine Xg ?_|omega)
  ·(with_reducible repeat' first|refine Xk ?_<;>try simp[hne]|refine Xs ?_ ?_<;>intro h<;>(try intro h')<;>(try simp[h,hne])<;>(try omega)|refine Xg ?_|omega)
   refine LJ.e (i+1,pt cs A (1+2*B+C)) ?_
   dsimp only
   have hv:0≤1+2*B+C∧1+2*B+C≤2*g.kinds.length:=by omega
   refine⟨by omega,by omega,by omega,?_,?_⟩
   ·have:=pt_len (l:=cs) (n:=A) (v:=1+2*B+C) (by omega) (by omega)
    omega
   ·intro x hx
    rcases mem_pt hx with rfl|hx
    ·exact hv
    ·exact i3 x hx
  ·refine LJ.e (i+1,cs) ?_
   exact⟨by omega,by omega,by omega,i2,i3⟩
 simp[hi]
 have z0:HandOK g (List.replicate g.kinds.length 0):=⟨by simp,fun k hk hk2=>by
  have e:gt (List.replicate g.kinds.length (0:Int)) k=0:=by
   simp at hk2
   have:k.toNat<g.kinds.length:=by omega
   simp[gt,this]
  rw[e];omega⟩
 refine XLoop.un ?_
 refine XLoopN.s (by simp;rfl) ?_
 refine XLoopN.u ?_
 simp
 (with_reducible repeat' first|refine Xk ?_<;>try simp|refine Xs ?_ ?_<;>intro h<;>(try intro h')<;>(try simp[h])<;>(try omega)|refine Xg ?_|omega)
 refine XLoop.e ((0,List.replicate g.kinds.length 0):Int×List Int) (fun y=>[(2,.ptr 0 0 0),(3,.ptr 1 0 0),(4,.ptr 2 0 0),(5,.ptr 4 0 0),(8,.i 0),(9,.i y.1)]) (fun y=>[.row 41 0 g.cells,.row 30 0 (cl fU l),.row 44 0 [.emp,.emp,.emp,.i 0,.i 0],.row 3 0 (cl f1 cs),.row 44 0 [.osl 3 0 1 0 g.size.toNat,.osl 5 0 1 0 g.kinds.length,.emp,.i R,.i S],.row 3 0 (cl f1 y.2)]) (fun y=>0≤y.1∧y.1≤g.kinds.length∧HandOK g y.2) (fun y=>g.kinds.length-y.1.toNat) ?_ ?_
 ·simp
  exact z0
 rintro⟨i,h0⟩ ⟨i0,i1,ih⟩
 dsimp only at i0 i1 ih ⊢
 have hmx:max i 0=i:=by omega
 have hln:=ih.len
 by_cases hi:i<g.kinds.length
 ·have hi2:i<2:=by omega
  have w1:IntKind.i64.wrap (gt l (12+i))=gt l (12+i):=by
   have:=hw (12+i.toNat) (by omega)
   rwa [show((12+i.toNat:Nat):Int)=12+i by omega]at this
  have u1:0≤gt l (12+i):=by
   have:=hu (12+i.toNat) (by omega)
   rw[show((12+i.toNat:Nat):Int)=12+i by omega]at this
   exact this.1
  have r1:=remI_eq (a:=gt l (12+i)) (b:=3) u1
  by_cases hkeep:(gt g.kinds i).keep=true
  ·have hpl:∀ v,(pt h0 i v).length=h0.length:=fun v=>pt_len i0 (by omega)
   have hit:i.toNat<g.kinds.length:=by omega
   simp[hl,hmx,hi,hi2,hkeep,w1,hpl,hln,hit]
   (with_reducible repeat' first|refine Xk ?_<;>try simp[hl,hmx,hi,hi2,hkeep,w1,hpl,hln,hit]|refine Xs ?_ ?_<;>intro h<;>(try intro h')<;>(try simp[h,hl,hmx,hi,hi2,hkeep,w1,hpl,hln,hit])<;>(try omega)|refine Xg ?_|omega)
   ·refine LJ.e (i+1,pt (pt h0 i (remI (gt l (12+i)) 3)) i 8) ?_
    refine⟨by dsimp only;omega,by dsimp only;omega,by dsimp only;omega,?_⟩
    exact(ih.set i0 (by omega) ⟨by omega,by omega,fun _=>hkeep⟩).set i0 (by rw[pt_len i0 (by omega)];omega) ⟨by omega,by omega,fun _=>hkeep⟩
   ·refine LJ.e (i+1,pt h0 i (remI (gt l (12+i)) 3)) ?_
    exact⟨by dsimp only;omega,by dsimp only;omega,by dsimp only;omega,ih.set i0 (by omega) ⟨by omega,by omega,fun _=>hkeep⟩⟩
  ·simp[hl,hmx,hi,hi2,hkeep,w1]
   (with_reducible repeat' first|refine Xk ?_<;>try simp[hl,hmx,hi,hi2,hkeep,w1]|refine Xs ?_ ?_<;>intro h<;>(try intro h')<;>(try simp[h,hl,hmx,hi,hi2,hkeep,w1])<;>(try omega)|refine Xg ?_|omega)
   refine LJ.e (i+1,h0) ?_
   exact⟨by dsimp only;omega,by dsimp only;omega,by dsimp only;omega,ih⟩
 simp[hi]
 (with_reducible repeat' first|refine Xk ?_<;>try simp[hi]|refine Xs ?_ ?_<;>intro h<;>(try intro h')<;>(try simp[h,hi])<;>(try omega)|refine Xg ?_|omega)
 clear hi hmx i0 i1 hln
 rename HandOK g h0=>ok0
 refine XLoopN.s (by simp;rfl) ?_
 refine XLoopN.u ?_
 simp
 (with_reducible repeat' first|refine Xk ?_<;>try simp|refine Xs ?_ ?_<;>intro h<;>(try intro h')<;>(try simp[h])<;>(try omega)|refine Xg ?_|omega)
 refine XLoop.e ((0,List.replicate g.kinds.length 0):Int×List Int) (fun y=>[(2,.ptr 0 0 0),(3,.ptr 1 0 0),(4,.ptr 2 0 0),(5,.ptr 4 0 0),(8,.i 1),(9,.i y.1)]) (fun y=>[.row 41 0 g.cells,.row 30 0 (cl fU l),.row 44 0 [.emp,.emp,.emp,.i 0,.i 0],.row 3 0 (cl f1 cs),.row 44 0 [.osl 3 0 1 0 g.size.toNat,.osl 5 0 1 0 g.kinds.length,.osl 6 0 1 0 g.kinds.length,.i R,.i S],.row 3 0 (cl f1 h0),.row 3 0 (cl f1 y.2)]) (fun y=>0≤y.1∧y.1≤g.kinds.length∧HandOK g y.2) (fun y=>g.kinds.length-y.1.toNat) ?_ ?_
 ·simp
  exact z0
 rintro⟨i,h1⟩ ⟨i0,i1,ih⟩
 dsimp only at i0 i1 ih ⊢
 have hmx:max (2+i) 0=(2+i):=by omega
 have hln:=ih.len
 by_cases hi:i<g.kinds.length
 ·have hi2:i<2:=by omega
  have w1:IntKind.i64.wrap (gt l (12+(2+i)))=gt l (12+(2+i)):=by
   have:=hw (12+(2+i).toNat) (by omega)
   rwa [show((12+(2+i).toNat:Nat):Int)=12+(2+i)by omega]at this
  have u1:0≤gt l (12+(2+i)):=by
   have:=hu (12+(2+i).toNat) (by omega)
   rw[show((12+(2+i).toNat:Nat):Int)=12+(2+i)by omega]at this
   exact this.1
  have r1:=remI_eq (a:=gt l (12+(2+i))) (b:=3) u1
  by_cases hkeep:(gt g.kinds i).keep=true
  ·have hpl:∀ v,(pt h1 i v).length=h1.length:=fun v=>pt_len i0 (by omega)
   have hit:i.toNat<g.kinds.length:=by omega
   simp[hl,hmx,hi,hi2,hkeep,w1,hpl,hln,hit]
   (with_reducible repeat' first|refine Xk ?_<;>try simp[hl,hmx,hi,hi2,hkeep,w1,hpl,hln,hit]|refine Xs ?_ ?_<;>intro h<;>(try intro h')<;>(try simp[h,hl,hmx,hi,hi2,hkeep,w1,hpl,hln,hit])<;>(try omega)|refine Xg ?_|omega)
   ·refine LJ.e (i+1,pt (pt h1 i (remI (gt l (12+(2+i))) 3)) i 8) ?_
    refine⟨by dsimp only;omega,by dsimp only;omega,by dsimp only;omega,?_⟩
    exact(ih.set i0 (by omega) ⟨by omega,by omega,fun _=>hkeep⟩).set i0 (by rw[pt_len i0 (by omega)];omega) ⟨by omega,by omega,fun _=>hkeep⟩
   ·refine LJ.e (i+1,pt h1 i (remI (gt l (12+(2+i))) 3)) ?_
    exact⟨by dsimp only;omega,by dsimp only;omega,by dsimp only;omega,ih.set i0 (by omega) ⟨by omega,by omega,fun _=>hkeep⟩⟩
  ·simp[hl,hmx,hi,hi2,hkeep,w1]
   (with_reducible repeat' first|refine Xk ?_<;>try simp[hl,hmx,hi,hi2,hkeep,w1]|refine Xs ?_ ?_<;>intro h<;>(try intro h')<;>(try simp[h,hl,hmx,hi,hi2,hkeep,w1])<;>(try omega)|refine Xg ?_|omega)
   refine LJ.e (i+1,h1) ?_
   exact⟨by dsimp only;omega,by dsimp only;omega,by dsimp only;omega,ih⟩
 simp[hi]
 (with_reducible repeat' first|refine Xk ?_<;>try simp[hi]|refine Xs ?_ ?_<;>intro h<;>(try intro h')<;>(try simp[h,hi])<;>(try omega)|refine Xg ?_|omega)
 clear hi hmx i0 i1 hln
 rename HandOK g h1=>ok1
 refine XLoopN.s (by simp;rfl) ?_
 refine XLoopN.u ?_
 simp
 (with_reducible repeat' first|refine Xk ?_<;>try simp|refine Xs ?_ ?_<;>intro h<;>(try intro h')<;>(try simp[h])<;>(try omega)|refine Xg ?_|omega)
 exact Ey.i ⟨cs,h0,h1,R,S⟩ (by simp[i2,ok0.len,ok1.len,dP,Pos.cells]) rfl ⟨by simp only;omega,ok0,ok1,hR,hS,i3⟩
end Go.Proofs.YtnaefnajkaohgaaGreatDoor
namespace Go.AL
open Go
@[simp] theorem shed_fn(ρ:Nat→Option Nat)(H:Heap)(k:Nat)(f:Fn)(a b:List D):shed ρ H (k+1) (.fn f a b) = .fn f (a.map (shed ρ H k)) (b.map (shed ρ H k)):=by
 by_cases h:closed (.fn f a b)=true
 ·have h':=h
  simp only[closed_fn,Bool.and_eq_true]at h'
  rw[shed_closed h,map_shed_closed h'.1,map_shed_closed h'.2]
 ·rw[shed,if_neg h]
@[simp] theorem shed_fptr(ρ:Nat→Option Nat)(H:Heap)(k:Nat)(cs:List D):shed ρ H (k+1) (.fptr cs) = .fptr (cs.map (shed ρ H k)):=by
 by_cases h:closed (.fptr cs)=true
 ·rw[shed_closed h,map_shed_closed (by simpa using h)]
 ·rw[shed,if_neg h]
theorem cl_I(l:List Int):cl f1 l=l.map fun n=>D.i n:=by
 rw[cl_def]
 induction l with
 | nil=>rfl
 | cons a r ih=>simp[← ih]
theorem dI_lit{ρ:Nat→Option Nat}{H:Heap}{k n:Nat}{t:TypeId}{cs:List D}(l:List Int)(h:cs=l.map fun n=>D.i n)(hn:n=l.length):fzR ρ H (k+1) 1 0 n (some (t,cs))=dI l:=by
 rw[h,← cl_I,fzR_cl hn]
 rfl
@[simp] theorem strO_eql(a b:ByteArray):strO .eql a b=some (.b (decide (a=b))):=by
 have:(a.data.toList == b.data.toList)=decide (a=b):=by
  rw[Bool.eq_iff_iff,beq_iff_eq,decide_eq_true_iff]
  constructor
  ·intro h;cases a;cases b;congr 1;exact Array.toList_inj.1 h
  ·rintro rfl;rfl
 show some (D.val (.bool _))=_
 rw[this]
@[simp] theorem box_str(t:TypeId)(s:ByteArray)(n:Nat):boxO t (.val (.string s)) n=some (.ptr n 0 0,.new (.row t 0 [.val (.string s)])):=rfl
@[simp] theorem box_i(t:TypeId)(m:Int)(n:Nat):boxO t (.i m) n=some (.ptr n 0 0,.new (.row t 0 [.i m])):=rfl
@[simp] theorem closed_dNP(l:List (List Stp)):closed (dN 1 fP l)=true:=closed_dN (fun a=>by simp[closedL]) l
def rcdA(rf:Nat)(st:RSt)(x:Option Ob)(P:Env→Prop):Prop:=∃ env,x=some (.rcd rf env st)∧P env
@[simp] theorem rcdA_some{rf:Nat}{st:RSt}{env:Env}{P:Env→Prop}:rcdA rf st (some (.rcd rf env st)) P=P env:=propext ⟨fun⟨_,h,k⟩=>by cases h;exact k,fun k=>⟨_,rfl,k⟩⟩
section
variable{T:Tab}{v rf:Nat}{b:IR}{dst:Option Nat}{s s1:St}{K:St→Prop}
@[simp] theorem rndA_norm:rndA T v rf b dst s K (.norm s1)=rcdA rf .ready s1.H[v]? fun env1=>XC T b { s1 with H:=s1.H.set v (.rcd rf env1 .busy) } (rndB v rf dst s K):=rfl
@[simp] theorem rndB_norm:rndB v rf dst s K (.norm s1)=rcdA rf .busy s1.H[v]? fun env2=>K { s with env:=put s.env dst (.b true),H:=s1.H.set v (.rcd rf env2 .ready) }:=rfl
@[simp] theorem rndB_exit{id:Nat}:rndB v rf dst s K (.exit id s1)=rcdA rf .busy s1.H[v]? fun env2=>K { s with env:=put s.env dst (.b false),H:=s1.H.set v (.rcd rf env2 (.doneExit id)) }:=rfl
@[simp] theorem setP_nil{l:List D}{e:Env}:setParams [] l e=e:=by cases l<;>rfl
@[simp] theorem setP_cons{k:Nat}{d:D}{ks:List Nat}{l:List D}{e:Env}:setParams (k::ks) (d::l) e=setParams ks l ((k,d)::e):=rfl
@[simp] theorem rangeOut_ready{s:St}:rangeOut s .ready=some (.norm s):=rfl
@[simp] theorem rangeOut_exit{s:St}{id:Nat}:rangeOut s (.doneExit id)=some (.exit id s):=rfl
end
@[simp] theorem obRefs_dfr(n:Nat):obRefs n .dfr = []:=rfl
@[simp] theorem obRefs_rcd(n rf:Nat)(e:Env)(st:RSt):obRefs n (.rcd rf e st) = []:=rfl
theorem XCall.nr{T:Tab}{f:FuncId}{args args':List D}{dst:Option Nat}{s:St}{K:St→Prop}{fn:FnA}{d:D}{Hn:Heap}(hf:T.fn f=some fn)(hp:fn.full=false)(h:Wf T f args' [] fun d' H'=>d'=d∧H'=Hn)
  (hs:args.map (shed (fun _=>none) s.H 40)=args') (hr:(okFlat d&&Hn.all flatOb)=true) (hr2:(okRes d&&Hn.all closedOb)=true) (k:K { s with env:=put s.env dst (lift1 s.H.length d),H:=s.H++Hn }):XCall T f args dst s K .mk:=by
 refine XCall.is hf hp (K0:=fun d' H'=>d'=d∧H'=Hn) (by rw[hs];exact h) ?_
 rintro d' Hn' ⟨rfl,rfl⟩
 refine⟨_,?_,k⟩
 unfold after
 by_cases hc:closedL args=true
 ·rw[if_pos hc,if_pos hr2]
 ·rw[if_neg hc,if_pos hr]
@[simp] theorem okFlat_osl(v g sz off n:Nat):okFlat (.osl v g sz off n)=true:=rfl
@[simp] theorem flatOb_row(t g:Nat)(cs:List D):flatOb (.row t g cs)=flatL cs:=rfl
@[simp] theorem flatL_clI(l:List Int):flatL (cl f1 l)=true:=by
 rw[cl_I]
 induction l with
 | nil=>rfl
 | cons a r ih=>simpa[flatL,flat]using ih
end Go.AL
namespace Go.Proofs.YtnaefnajkaohgaaGreatDoor
open Go Go.AL Classical
set_option maxRecDepth 10000
set_option maxHeartbeats 4000000
theorem f133(g:Game)(hg:GameOK g)(n:Int)(hn:0≤n∧n≤2*g.kinds.length):Wf T 133 [dG g,.i n] [] (Is (.b true)):=by
 have hk:=hg.kinds
 refine Yg F133 ?_
 simp[F133]
 (with_reducible repeat' first|refine Xk ?_<;>try simp|refine Xs ?_ ?_<;>intro h<;>(try intro h')<;>(try simp[h])<;>(try omega)|refine Xg ?_|omega)
theorem f134(g:Game)(hg:GameOK g)(n:Int)(hn:0≤n∧n≤2*g.kinds.length):Wf T 134 [.i n,.fptr [.fn (.func 133) [dG g] []]] [] (Is (.b false)):=by
 refine Yg F134 ?_
 simp[F134]
 refine Yc (f133 g hg n hn) ?_
 simp
theorem f178(g:Game)(hg:GameOK g)(l:List Int)(hl:∀ n∈l,0≤n∧n≤2*g.kinds.length)(h9:l.length≤9):Wf T 178 [dI l,.fn (.func 134) [] [.fptr [.fn (.func 133) [dG g] []]]] [] (Is (.i (-1))):=by
 refine Yg F178 ?_
 simp[F178]
 refine XLoop.e (0:Int) (fun y=>[(0,dI l),(1,.fn (.func 134) [] [.fptr [.fn (.func 133) [dG g] []]]),(7,.i l.length),(8,.i y)]) (fun y=>[]) (fun y=>0≤y∧y≤l.length) (fun y=>(l.length-y).toNat) ?_ ?_
 ·simp
 rintro i ⟨i0,i1⟩
 dsimp only at i0 i1 ⊢
 by_cases hi:i<l.length
 ·simp[hi]
  (with_reducible repeat' first|refine Xk ?_<;>try simp|refine Xs ?_ ?_<;>intro h<;>(try intro h')<;>(try simp[h])<;>(try omega)|refine Xg ?_|omega)
  refine Yc (f134 g hg (gt l i) (hl _ (gt_mem i0 hi))) ?_
  simp
  (with_reducible repeat' first|refine Xk ?_<;>try simp|refine Xs ?_ ?_<;>intro h<;>(try intro h')<;>(try simp[h])<;>(try omega)|refine Xg ?_|omega)
  refine LJ.e (i+1) ?_
  exact⟨by omega,by omega,by omega⟩
 ·simp[hi]
theorem f135(g:Game)(hg:GameOK g)(l:List Int)(hl:∀ n∈l,0≤n∧n≤2*g.kinds.length)(h9:l.length≤9):Wf T 135 [dI l,.fn (.func 134) [] [.fptr [.fn (.func 133) [dG g] []]]] [] (Is (.b false)):=by
 refine Yg F135 ?_
 simp[F135]
 refine Yc (f178 g hg l hl h9) ?_
 simp
theorem f136(g:Game)(hg:GameOK g)(l:List Int)(hl:HandOK g l):Wf T 136 [dG g,dI l] [] (Is (.b true)):=by
 have hk:=hg.kinds
 have hn:=hl.len
 refine Yg F136 ?_
 simp[F136]
 (with_reducible repeat' first|refine Xk ?_<;>try simp[hn]|refine Xs ?_ ?_<;>intro h<;>(try intro h')<;>(try simp[h,hn])<;>(try omega)|refine Xg ?_|omega)
 refine XLoop.e (0:Int) (fun y=>[(2,.ptr 0 0 0),(14,dI l),(15,.i g.kinds.length),(16,.i y)]) (fun y=>[.row 214 0 g.cells]) (fun y=>0≤y∧y≤l.length) (fun y=>(l.length-y).toNat) ?_ ?_
 ·simp
 rintro i ⟨i0,i1⟩
 dsimp only at i0 i1 ⊢
 by_cases hi:i<l.length
 ·have ha:=hl.at_ i i0 hi
  have hik:i<g.kinds.length:=by omega
  by_cases hp:0<gt l i
  ·have hkp:=ha.2.2 hp
   simp[hi]
   (with_reducible repeat' first|refine Xk ?_<;>try simp[hkp,hp]|refine Xs ?_ ?_<;>intro h<;>(try intro h')<;>(try simp[h,hkp,hp])<;>(try omega)|refine Xg ?_|omega)
   refine LJ.e (i+1) ?_
   exact⟨by omega,by omega,by omega⟩
  ·simp[hi]
   (with_reducible repeat' first|refine Xk ?_<;>try simp[hp]|refine Xs ?_ ?_<;>intro h<;>(try intro h')<;>(try simp[h,hp])<;>(try omega)|refine Xg ?_|omega)
   refine LJ.e (i+1) ?_
   exact⟨by omega,by omega,by omega⟩
 ·simp[show ¬ i<g.kinds.length by omega]
theorem f97(g:Game)(hg:GameOK g)(p:Pos)(hp:PosOK g p):Wf T 97 [dG g,dP p] [] (Is (.b true)):=by
 have hk:=hg.kinds
 have hr:=hg.rights
 have hr2:=hp.rights
 have hs:=hp.side
 have hz:=hp.size
 have hb:=hg.board.size
 have h4:=shl_small hr.1 (by omega)
 refine Yg F97 ?_
 simp[F97,h4,hz]
 refine XTCall.r rfl rfl (f135 g hg p.cs hp.cs (by omega)) (by simp) (by simp[flat]) (by simp) ?_
 simp
 refine Yt (f136 g hg p.h0 hp.h0) ?_
 simp
 refine Yt (f136 g hg p.h1 hp.h1) ?_
 simp
 (with_reducible repeat' first|refine Xk ?_<;>try simp[h4]|refine Xs ?_ ?_<;>intro h<;>(try intro h')<;>(try simp[h,h4])<;>(try omega)|refine Xg ?_|omega)
 ·simp[*]
 ·have:p.side=1:=by omega
  simp[*]
set_option maxRecDepth 10000
set_option maxHeartbeats 4000000
theorem f177(n:Int):Wf T 177 [.i n] [] (Is (.b false)):=by
 refine Yg F177 ?_
 simp[F177]
theorem f131(a b:Int):Wf T 131 [.i a,.i b] [] (Is (.i (numberC a b))):=by
 refine Yg F131 ?_
 simp[F131]
 refine Yc (f177 a) ?_
 simp
 refine Yc (f177 b) ?_
 simp
 (with_reducible repeat' first|refine Xk ?_<;>try simp|refine Xs ?_ ?_<;>intro h<;>(try intro h')<;>(try simp[h])<;>(try omega)|refine Xg ?_|omega)
 all_goals
  unfold numberC
  (repeat' split)<;>(first|rfl|(exfalso;omega))
theorem f130(a b:List Int)(ha:a.length<2 ^ 40)(hb:b.length<2 ^ 40):Wf T 130 [dI a,dI b] [] (Is (.i (listC a b))):=by
 refine Yg F130 ?_
 simp[F130]
 refine XLoop.e (0:Int) (fun i=>[(0,dI a),(1,dI b),(9,dI a),(10,.i a.length),(11,.i i)]) (fun i=>[]) (fun i=>0≤i∧i≤a.length∧i≤b.length∧a.take i.toNat=b.take i.toNat) (fun i=>a.length-i.toNat) ?_ ?_
 ·simp
 rintro i ⟨h0,h1,h1',h2⟩
 have e:=listC_take h2 (by omega) (by omega)
 by_cases hi:i<a.length
 ·by_cases hj:i<b.length
  ·simp[hi,hj]
   (with_reducible repeat' first|refine Xk ?_<;>try simp|refine Xs ?_ ?_<;>intro h<;>(try intro h')<;>(try simp[h])<;>(try omega)|refine Xg ?_|omega)
   refine Yc (f131 (gt a i) (gt b i)) ?_
   simp
   by_cases hz:numberC (gt a i) (gt b i)=0
   ·simp[hz]
    (with_reducible repeat' first|refine Xk ?_<;>try simp|refine Xs ?_ ?_<;>intro h<;>(try intro h')<;>(try simp[h])<;>(try omega)|refine Xg ?_|omega)
    refine LJ.e (i+1) ?_
    refine⟨by omega,by omega,by omega,by omega,?_⟩
    rw[take_gt h0 hi,take_gt h0 hj,h2,numberC_zero.1 hz]
   ·simp[hz]
    rw[e,drop_gt h0 hi,drop_gt h0 hj,listC,if_neg (fun h=>hz (numberC_zero.2 h))]
  ·simp[hi,hj]
   (with_reducible repeat' first|refine Xk ?_<;>try simp|refine Xs ?_ ?_<;>intro h<;>(try intro h')<;>(try simp[h])<;>(try omega)|refine Xg ?_|omega)
   have h5:numberC ((a.drop i.toNat).length) ((b.drop i.toNat).length)=1:=by
    simp only[List.length_drop,numberC]
    rw[if_neg (by omega),if_pos (by omega)]
   rw[e,listC_end (by simp only[List.length_drop];omega),h5]
 ·simp[hi]
  (with_reducible repeat' first|refine Xk ?_<;>try simp|refine Xs ?_ ?_<;>intro h<;>(try intro h')<;>(try simp[h])<;>(try omega)|refine Xg ?_|omega)
  all_goals
   rw[e,listC_end (by simp only[List.length_drop];omega)]
   simp only[List.length_drop,numberC]
   (repeat' split)<;>omega
theorem f129(l:List Int)(hl:l.length<2 ^ 40):Wf T 129 [dI l] [] (Is (.i (firstNZ l))):=by
 refine Yg F129 ?_
 simp[F129]
 refine XLoop.e (0:Int) (fun i=>[(3,.i 0),(6,dI l),(7,.i l.length),(8,.i i)]) (fun i=>[]) (fun i=>0≤i∧i≤l.length∧firstNZ l=firstNZ (l.drop i.toNat)) (fun i=>l.length-i.toNat) ?_ ?_
 ·simp
 rintro i ⟨h0,h1,h2⟩
 by_cases hi:i<l.length
 ·rw[drop_gt h0 hi]at h2
  by_cases hz:gt l i=0
  ·simp[hi,hz]
   (with_reducible repeat' first|refine Xk ?_<;>try simp|refine Xs ?_ ?_<;>intro h<;>(try intro h')<;>(try simp[h])<;>(try omega)|refine Xg ?_|omega)
   refine LJ.e (i+1) ?_
   refine⟨by omega,by omega,by omega,?_⟩
   rw[h2]
   simp only[firstNZ,hz]
   rw[if_neg (by simp),show(i+1).toNat=i.toNat+1 by omega]
  ·simp[hi,hz]
   (with_reducible repeat' first|refine Xk ?_<;>try simp|refine Xs ?_ ?_<;>intro h<;>(try intro h')<;>(try simp[h])<;>(try omega)|refine Xg ?_|omega)
   rw[h2]
   simp[firstNZ,hz]
 ·simp[hi]
  rw[h2,List.drop_eq_nil_of_le (by omega)]
  rfl
theorem f88(p q:Pos)(hp:Small p)(hq:Small q):Wf T 88 [dP p,dP q] [] (Is (.i (cmpP p q))):=by
 refine Yg F88 ?_
 simp[F88]
 refine Yt (f130 _ _ hp.1 hq.1) ?_
 simp
 refine Yt (f130 _ _ hp.2.1 hq.2.1) ?_
 simp
 refine Yt (f130 _ _ hp.2.2 hq.2.2) ?_
 simp
 refine Yt (f131 _ _) ?_
 simp
 refine Yt (f131 _ _) ?_
 simp
 refine XTCall.r rfl rfl (f129 [listC p.cs q.cs,listC p.h0 q.h0,listC p.h1 q.h1,numberC p.rights q.rights,numberC p.side q.side] (by simp)) (by simp;exact dI_lit _ rfl rfl) (by simp[flat]) (by simp) ?_
 simp
 rfl
theorem f100(l:List Pos)(hl:l.length<2 ^ 40)(hs:∀ p∈l,Small p)(hso:Sorted l):Wf T 100 [dPs l] [] (Is (.b true)):=by
 refine Yg F100 ?_
 simp[F100]
 (with_reducible repeat' first|refine Xk ?_<;>try simp|refine Xs ?_ ?_<;>intro h<;>(try intro h')<;>(try simp[h])<;>(try omega)|refine Xg ?_|omega)
 refine XLoop.e (0:Int) (fun i=>[(0,dPs l),(6,.i (l.length-1)),(7,.i i)]) (fun i=>[]) (fun i=>0≤i) (fun i=>l.length-i.toNat) ?_ ?_
 ·simp
 rintro i h0
 by_cases hi:i<l.length-1
 ·simp[hi]
  (with_reducible repeat' first|refine Xk ?_<;>try simp|refine Xs ?_ ?_<;>intro h<;>(try intro h')<;>(try simp[h])<;>(try omega)|refine Xg ?_|omega)
  refine Yt (f88 _ _ (hs _ (gt_mem h0 (by omega))) (hs _ (gt_mem (n:=i+1) (by omega) (by omega)))) ?_
  simp
  have:=hso (i+1) (by omega) (by omega)
  rw[Int.add_sub_cancel]at this
  simp[show ¬ 0≤cmpP (gt l i) (gt l (i+1))by omega]
  (with_reducible repeat' first|refine Xk ?_<;>try simp|refine Xs ?_ ?_<;>intro h<;>(try intro h')<;>(try simp[h])<;>(try omega)|refine Xg ?_|omega)
  refine LJ.e (i+1) ?_
  exact⟨by omega,by omega⟩
 ·simp[hi]
theorem f96(g:Game)(hg:GameOK g)(p:Pos)(hp:PosOK g p):Wf T 96 [dP p,.fptr g.cells] [] (Is (.b false)):=by
 refine Yg F96 ?_
 simp[F96]
 refine Yc (f97 g hg p hp) ?_
 simp
theorem f147(g:Game)(hg:GameOK g)(l:List Pos)(hl:∀ p∈l,PosOK g p)(h9:l.length<2 ^ 40):Wf T 147 [dPs l,.fn (.func 96) [] [.fptr g.cells]] [] (Is (.i (-1))):=by
 refine Yg F147 ?_
 simp[F147]
 refine XLoop.e (0:Int) (fun y=>[(0,dPs l),(1,.fn (.func 96) [] [.fptr g.cells]),(7,.i l.length),(8,.i y)]) (fun y=>[]) (fun y=>0≤y∧y≤l.length) (fun y=>(l.length-y).toNat) ?_ ?_
 ·simp
 rintro i ⟨i0,i1⟩
 by_cases hi:i<l.length
 ·simp[hi]
  (with_reducible repeat' first|refine Xk ?_<;>try simp|refine Xs ?_ ?_<;>intro h<;>(try intro h')<;>(try simp[h])<;>(try omega)|refine Xg ?_|omega)
  refine Yc (f96 g hg (gt l i) (hl _ (gt_mem i0 hi))) ?_
  simp
  (with_reducible repeat' first|refine Xk ?_<;>try simp|refine Xs ?_ ?_<;>intro h<;>(try intro h')<;>(try simp[h])<;>(try omega)|refine Xg ?_|omega)
  refine LJ.e (i+1) ?_
  exact⟨by omega,by omega,by omega⟩
 ·simp[hi]
theorem f99(g:Game)(hg:GameOK g)(l:List Pos)(hl:∀ p∈l,PosOK g p)(h9:l.length<2 ^ 40):Wf T 99 [dPs l,.fn (.func 96) [] [.fptr g.cells]] [] (Is (.b false)):=by
 refine Yg F99 ?_
 simp[F99]
 refine Yc (f147 g hg l hl h9) ?_
 simp
end Go.Proofs.YtnaefnajkaohgaaGreatDoor
