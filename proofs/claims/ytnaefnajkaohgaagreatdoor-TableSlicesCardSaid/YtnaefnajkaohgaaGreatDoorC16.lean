/- Part 16 of the proof of skewer.skewerlaw15.TableSlices. -/
import Derived.Test.YtnaefnajkaohgaaGreatDoorC15
set_option linter.all false
namespace Go.AL
open Go
@[irreducible] def fU(n:Int):List D:=[.val (.int .u8 n)]
@[simp] theorem fU_def(n:Int):fU n = [.val (.int .u8 n)]:=by unfold fU;rfl
instance:Fl fU 1:=⟨fun _=>by simp,fun _=>by simp[closedL]⟩
def dU(l:List Int):D:=.sl 1 (l.map fU)
@[simp] theorem closed_dU(l:List Int):closed (dU l)=true:=by unfold dU;exact closed_slm l
@[simp] theorem len_dU(l:List Int)(H:Heap):lenO .slice (dU l) H=some (.i l.length):=by simp[dU]
@[simp] theorem oA_idxU{l:List Int}{n:Int}{k:IntKind}{P:D→Prop}:oA (idxAO 1 (dU l) (.val (.int k n))) P .mk=((0≤n∧n<l.length)∧P (.fptr [.val (.int .u8 (gt l n))])):=by unfold dU;rw[oA_idx,fU_def]
@[simp] theorem topRef_dU(n:Nat)(l:List Int):topRef n (dU l) = []:=rfl
structure PrOK(dirs kinds rights:Int)(l:List Stp):Prop where
 steps:∀ x∈l,((x.1=1∨x.1=2∨x.1=7)∧0≤x.2∧x.2<dirs)∨(3≤x.1∧x.1≤6∧x.2=0)∨(x.1=8∧0≤x.2∧x.2<kinds)∨((x.1=9∨x.1=10)∧0≤x.2∧x.2<rights)
 len:l.length≤8
 takes:cntOp l 6≤2
 push:cntOp l 7≤1
 become:cntOp l 8≤1
@[simp] theorem ar_addU8(a b:Int):arithO .add .u8 a b=some (.val (.int .u8 (IntKind.u8.wrap (a+b)))):=rfl
theorem wrapU8_in(n:Int):0≤IntKind.u8.wrap n∧IntKind.u8.wrap n<256:=by
 simp only[IntKind.wrap,IntKind.bits,IntKind.signed]
 simp
 omega
theorem quoU8_in(a b:Int):0≤quoK .u8 a b∧quoK .u8 a b<256:=wrapU8_in _
theorem dU_lit{ρ:Nat→Option Nat}{H:Heap}{k n:Nat}{t:TypeId}{cs:List D}(l:List Int)(h:cs=l.map fun n=>D.val (.int .u8 n))(hn:n=l.length):fzR ρ H (k+1) 1 0 n (some (t,cs))=dU l:=by
 subst hn
 have e:cs=cl fU l:=by
  rw[h,cl_def]
  clear h
  induction l with
  | nil=>rfl
  | cons a r ih=>simp[← ih]
 rw[e,fzR_cl rfl]
 rfl
theorem oA_idxG{sz:Nat}{es:List (List D)}{k:IntKind}{n:Int}{P:D→Prop}:oA (idxAO sz (.sl sz es) (.val (.int k n))) P .mk=((0≤n∧n<es.length)∧P (.fptr (es.getD n.toNat []))):=by
 simp only[idxAO,true_and,oA_iteN,oA_some]
theorem oA.i{α:Type}{x:Option α}{P:α→Prop}{t:Tag P}{a:α}(h1:x=some a)(h2:P a):oA x P t:=⟨a,h1,h2⟩
end Go.AL
namespace Go.Proofs.YtnaefnajkaohgaaGreatDoor
open Go Go.AL Classical
set_option maxRecDepth 10000
set_option maxHeartbeats 4000000
theorem f192(l:List Int)(k:Int)(hk:0≤k):Wf T 192 [dU l,.i k] [] (Is (.i (if k<l.length then IntKind.i64.wrap (gt l k)else 0))):=by
 refine Yg F192 ?_
 simp[F192]
 (with_reducible repeat' first|refine Xk ?_<;>try simp|refine Xs ?_ ?_<;>intro h<;>(try intro h')<;>(try simp[h])<;>(try omega)|refine Xg ?_|omega)
 all_goals simp[*]
def lib(d o b k r:Int):List (List Stp):=[[(1,d),(3,0)],[(1,d),(4,0),(6,0)],[(2,d)],[(2,d),(4,0),(6,0)],[(1,d),(4,0),(6,0),(1,d)],[(1,d),(1,o)],[(1,d),(7,d)],[(1,d),(3,0),(8,k)],[(9,r),(1,d),(1,d),(10,r)],[(1,d),(5,0),(1,d),(3,0)],[(10,r),(1,d)],[(1,d),(4,0),(6,0),(1,b)],[(1,d),(4,0),(6,0),(1,o),(4,0),(6,0)],[(2,d),(5,0),(1,d)],[(1,d),(4,0),(6,0),(8,k)],[(1,d),(7,d),(1,o)]]
theorem lib_ok(d o b k r:Int)(hd:0≤d∧d<8)(ho:0≤o∧o<8)(hb:0≤b∧b<8)(hk:0≤k∧k<6)(hr:0≤r∧r<4):∀ p∈lib d o b k r,PrOK 8 6 4 p:=by
 have hp:∀ p:List Stp,(∀ x∈p,((x.1=1∨x.1=2∨x.1=7)∧0≤x.2∧x.2<8)∨(3≤x.1∧x.1≤6∧x.2=0)∨(x.1=8∧0≤x.2∧x.2<6)∨((x.1=9∨x.1=10)∧0≤x.2∧x.2<4))→p.length≤8∧cntOp p 6≤2∧cntOp p 7≤1∧cntOp p 8≤1→PrOK 8 6 4 p:=fun p a b=>⟨a,b.1,b.2.1,b.2.2.1,b.2.2.2⟩
 intro p h
 unfold lib at h
 simp only[List.mem_cons,List.not_mem_nil,or_false]at h
 rcases h with rfl|rfl|rfl|rfl|rfl|rfl|rfl|rfl|rfl|rfl|rfl|rfl|rfl|rfl|rfl|rfl
 all_goals
  refine hp _ ?_ ?_
  ·simp;omega
  ·simp[cntOp]
theorem lib_get(d o b k r m:Int)(h0:0≤m)(h1:m<16):([[D.sl 2 [[D.i 1,D.i d],[D.i 3,D.i 0]]],[D.sl 2 [[D.i 1,D.i d],[D.i 4,D.i 0],[D.i 6,D.i 0]]],[D.sl 2 [[D.i 2,D.i d]]],[D.sl 2 [[D.i 2,D.i d],[D.i 4,D.i 0],[D.i 6,D.i 0]]],[D.sl 2 [[D.i 1,D.i d],[D.i 4,D.i 0],[D.i 6,D.i 0],[D.i 1,D.i d]]],[D.sl 2 [[D.i 1,D.i d],[D.i 1,D.i o]]],[D.sl 2 [[D.i 1,D.i d],[D.i 7,D.i d]]],[D.sl 2 [[D.i 1,D.i d],[D.i 3,D.i 0],[D.i 8,D.i k]]],[D.sl 2 [[D.i 9,D.i r],[D.i 1,D.i d],[D.i 1,D.i d],[D.i 10,D.i r]]],[D.sl 2 [[D.i 1,D.i d],[D.i 5,D.i 0],[D.i 1,D.i d],[D.i 3,D.i 0]]],[D.sl 2 [[D.i 10,D.i r],[D.i 1,D.i d]]],[D.sl 2 [[D.i 1,D.i d],[D.i 4,D.i 0],[D.i 6,D.i 0],[D.i 1,D.i b]]],[D.sl 2 [[D.i 1,D.i d],[D.i 4,D.i 0],[D.i 6,D.i 0],[D.i 1,D.i o],[D.i 4,D.i 0],[D.i 6,D.i 0]]],[D.sl 2 [[D.i 2,D.i d],[D.i 5,D.i 0],[D.i 1,D.i d]]],[D.sl 2 [[D.i 1,D.i d],[D.i 4,D.i 0],[D.i 6,D.i 0],[D.i 8,D.i k]]],[D.sl 2 [[D.i 1,D.i d],[D.i 7,D.i d],[D.i 1,D.i o]]]].getD m.toNat [])[0]? = some (dProg (gt (lib d o b k r) m)):=by
 rcases(show m=0∨m=1∨m=2∨m=3∨m=4∨m=5∨m=6∨m=7∨m=8∨m=9∨m=10∨m=11∨m=12∨m=13∨m=14∨m=15 by omega)with rfl|rfl|rfl|rfl|rfl|rfl|rfl|rfl|rfl|rfl|rfl|rfl|rfl|rfl|rfl|rfl
 all_goals simp[lib,gt,dProg]
theorem f152(l:List Int)(hl:l.length=5)(h:∀ n∈l,0≤n∧n<256):Wf T 152 [dU l] [] (Ey dProg (PrOK 8 6 4)):=by
 have e:∀ k:Int,0≤k→k<5→(if k<l.length then IntKind.i64.wrap (gt l k)else 0)=gt l k:=fun k a b=>by
  rw[if_pos (by omega)]
  have:=h _ (gt_mem (l:=l) a (by omega))
  exact wrapI64 ⟨by omega,by omega⟩
 have hr:∀ k:Int,0≤k→k<5→0≤gt l k:=fun k a b=>(h _ (gt_mem (l:=l) a (by omega))).1
 refine Yz F152 (insB 121 [0,1,2,3,4,5,6,7,8,9,10,11,12,13,14,15,16,17,18,19,20,21,22,23,24,25,26,27,28] F152.body) ?_
 simp[F152,insB,insC,befK,froK,hasK,headIs]
 refine Yc (f192 l 1 (by omega)) ?_
 simp[e 1 (by omega) (by omega)]
 refine Yc (f192 l 2 (by omega)) ?_
 simp[e 2 (by omega) (by omega)]
 refine Yc (f192 l 3 (by omega)) ?_
 simp[e 3 (by omega) (by omega)]
 refine Yc (f192 l 4 (by omega)) ?_
 simp[e 4 (by omega) (by omega),fzR,chunks]
 have r1:=remI_eq (a:=gt l 1) (b:=8) (hr 1 (by omega) (by omega))
 have r2:=remI_eq (a:=gt l 2) (b:=8) (hr 2 (by omega) (by omega))
 have r3:=remI_eq (a:=gt l 3) (b:=6) (hr 3 (by omega) (by omega))
 have r4:=remI_eq (a:=gt l 4) (b:=4) (hr 4 (by omega) (by omega))
 have r0:=remI_eq (a:=gt l 0) (b:=16) (hr 0 (by omega) (by omega))
 have r5:=remI_eq (a:=remI (gt l 1) 8+4) (b:=8) (by omega)
 have hw0:IntKind.i64.wrap (gt l 0)=gt l 0:=by
  have:=e 0 (by omega) (by omega)
  rwa [if_pos (by omega)]at this
 (with_reducible repeat' first|refine Xk ?_<;>try simp|refine Xs ?_ ?_<;>intro h<;>(try intro h')<;>(try simp[h])<;>(try omega)|refine Xg ?_|omega)
 refine Yc (f192 l 0 (by omega)) ?_
 simp[hl,hw0,oA_idxG,fzR,chunks]
 (with_reducible repeat' first|refine Xk ?_<;>try simp|refine Xs ?_ ?_<;>intro h<;>(try intro h')<;>(try simp[h])<;>(try omega)|refine Xg ?_|omega)
 have hlib:=lib_ok (remI (gt l 1) 8) (remI (gt l 2) 8) (remI (remI (gt l 1) 8+4) 8) (remI (gt l 3) 6) (remI (gt l 4) 4) (by omega) (by omega) (by omega) (by omega) (by omega)
 have hlen:(lib (remI (gt l 1) 8) (remI (gt l 2) 8) (remI (remI (gt l 1) 8+4) 8) (remI (gt l 3) 6) (remI (gt l 4) 4)).length=16:=rfl
 have hg:∀ m:Int,0≤m→m<16→gt (lib (remI (gt l 1) 8) (remI (gt l 2) 8) (remI (remI (gt l 1) 8+4) 8) (remI (gt l 3) 6) (remI (gt l 4) 4)) m∈lib (remI (gt l 1) 8) (remI (gt l 2) 8) (remI (remI (gt l 1) 8+4) 8) (remI (gt l 3) 6) (remI (gt l 4) 4):=fun m a b=>gt_mem a (by omega)
 refine oA.i (a:=dProg (gt (lib (remI (gt l 1) 8) (remI (gt l 2) 8) (remI (remI (gt l 1) 8+4) 8) (remI (gt l 3) 6) (remI (gt l 4) 4)) (remI (gt l 0) 16))) ?_ ?_
 ·exact lib_get _ _ _ _ _ _ (by omega) (by omega)
 ·simp
  exact Ey.i (gt (lib (remI (gt l 1) 8) (remI (gt l 2) 8) (remI (remI (gt l 1) 8+4) 8) (remI (gt l 3) 6) (remI (gt l 4) 4)) (remI (gt l 0) 16)) rfl rfl (hlib _ (hg _ (by omega) (by omega)))
set_option maxRecDepth 10000
set_option maxHeartbeats 1000000
theorem cntOp_snoc(l:List Stp)(x:Stp)(op:Int):cntOp (l ++ [x]) op=cntOp l op+(if x.1=op then 1 else 0):=by
 unfold cntOp
 rw[List.countP_append]
 simp[List.countP_cons]
 split<;>rfl
def StIn(dirs kinds rights:Int)(x:Stp):Prop:=((x.1=1∨x.1=2∨x.1=7)∧0≤x.2∧x.2<dirs)∨(3≤x.1∧x.1≤6∧x.2=0)∨(x.1=8∧0≤x.2∧x.2<kinds)∨((x.1=9∨x.1=10)∧0≤x.2∧x.2<rights)
structure FitI(p:List Stp)(kinds rights:Int)(i:Int)(out:List Stp):Prop where
 i0:0≤i∧i≤p.length
 steps:∀ x∈out,StIn 8 kinds rights x
 cnt:∀ op,cntOp out op≤cntOp (p.take i.toNat) op
 len:out.length≤i.toNat
theorem FitI.add{p:List Stp}{kinds rights i:Int}{out:List Stp}(h:FitI p kinds rights i out)(hi:i<p.length){x:Stp}(hx:StIn 8 kinds rights x)(he:x.1=(gt p i).1):FitI p kinds rights (i+1) (out ++ [x]):=by
 have h0:=h.i0
 refine⟨by omega,fun y hy=>?_,fun op=>?_,by have:=h.len;simp;omega⟩
 ·rcases List.mem_append.1 hy with hy|hy
  ·exact h.steps y hy
  ·rw[List.mem_singleton]at hy;subst hy;exact hx
 ·rw[take_gt h0.1 hi,cntOp_snoc,cntOp_snoc,he]
  have:=h.cnt op
  omega
theorem FitI.skip{p:List Stp}{kinds rights i:Int}{out:List Stp}(h:FitI p kinds rights i out)(hi:i<p.length):FitI p kinds rights (i+1) out:=by
 have h0:=h.i0
 refine⟨by omega,h.steps,fun op=>?_,by have:=h.len;omega⟩
 rw[take_gt h0.1 hi,cntOp_snoc]
 have:=h.cnt op
 split<;>omega
theorem f151(p:List Stp)(kinds rights:Int)(hp:PrOK 8 6 4 p)(hk:1≤kinds∧kinds≤6)(hr:0≤rights∧rights≤4):Wf T 151 [dProg p,.i 8,.i kinds,.i rights] [] (Ey dProg fun r=>PrOK 8 kinds rights r∧1≤r.length):=by
 have hl:=hp.len
 refine Yg F151 ?_
 simp[F151]
 refine XLoop.e ((0,[]):Int×List Stp) (fun y=>[(0,dProg p),(1,.i 8),(2,.i kinds),(3,.i rights),(9,.osl 0 y.2.length 2 0 y.2.length),(10,.i y.1)]) (fun y=>[.row 82 y.2.length (cl fS y.2)]) (fun y=>FitI p kinds rights y.1 y.2) (fun y=>p.length-y.1.toNat) ?_ ?_
 ·exact⟨by simp,by simp,by simp,by simp⟩
 rintro⟨i,out⟩ hI
 have h0:=hI.i0
 have h5:=hI.len
 dsimp only at hI h0 h5 ⊢
 by_cases hi:i<p.length
 ·have hx:=hp.steps _ (gt_mem h0.1 hi)
  have hadd:=fun(x:Stp)=>hI.add hi (x:=x)
  have hre:∀ b:Int,0<b→0≤(gt p i).2→0≤remI (gt p i).2 b∧remI (gt p i).2 b<b:=fun b h1 h2=>by
   rw[remI_eq h2];exact⟨Int.emod_nonneg _ (by omega),Int.emod_lt_of_pos _ h1⟩
  simp[hi]
  (with_reducible repeat' first|refine Xk ?_<;>try simp|refine Xs ?_ ?_<;>intro h<;>(try intro h')<;>(try simp[h])<;>(try omega)|refine Xg ?_|omega)
  ·refine LJ.e (i+1,out ++ [(1,remI (gt p i).2 8)]) ?_
   have h8:=hre 8 (by omega)
   have hkk:=hre kinds (by omega)
   exact⟨by dsimp only;omega,hadd _ (by unfold StIn;dsimp only;omega) (by dsimp only;omega)⟩
  ·refine LJ.e (i+1,out ++ [(2,remI (gt p i).2 8)]) ?_
   have h8:=hre 8 (by omega)
   have hkk:=hre kinds (by omega)
   exact⟨by dsimp only;omega,hadd _ (by unfold StIn;dsimp only;omega) (by dsimp only;omega)⟩
  ·refine LJ.e (i+1,out ++ [(7,remI (gt p i).2 8)]) ?_
   have h8:=hre 8 (by omega)
   have hkk:=hre kinds (by omega)
   exact⟨by dsimp only;omega,hadd _ (by unfold StIn;dsimp only;omega) (by dsimp only;omega)⟩
  ·refine LJ.e (i+1,out ++ [(8,remI (gt p i).2 kinds)]) ?_
   have h8:=hre 8 (by omega)
   have hkk:=hre kinds (by omega)
   exact⟨by dsimp only;omega,hadd _ (by unfold StIn;dsimp only;omega) (by dsimp only;omega)⟩
  ·refine LJ.i (i+1,out) (by first|rfl|simp[*]) (by first|rfl|simp[*]) rfl rfl ?_
   exact⟨by dsimp only;omega,hI.skip hi⟩
  ·have hrr:=hre rights (by omega)
   refine LJ.e (i+1,out ++ [((gt p i).1,remI (gt p i).2 rights)]) ?_
   exact⟨by dsimp only;omega,hadd _ (by unfold StIn;dsimp only;omega) (by dsimp only)⟩
  ·refine LJ.i (i+1,out) (by first|rfl|simp[*]) (by first|rfl|simp[*]) rfl rfl ?_
   exact⟨by dsimp only;omega,hI.skip hi⟩
  ·have hrr:=hre rights (by omega)
   refine LJ.e (i+1,out ++ [((gt p i).1,remI (gt p i).2 rights)]) ?_
   exact⟨by dsimp only;omega,hadd _ (by unfold StIn;dsimp only;omega) (by dsimp only)⟩
  ·refine LJ.e (i+1,out ++ [gt p i]) ?_
   exact⟨by dsimp only;omega,hadd _ (by unfold StIn;omega) rfl⟩
 ·simp[hi]
  have hc:=hI.cnt
  rw[take_all (by omega)]at hc
  (with_reducible repeat' first|refine Xk ?_<;>try simp|refine Xs ?_ ?_<;>intro h<;>(try intro h')<;>(try simp[h])<;>(try omega)|refine Xg ?_|omega)
  ·refine Ey.i [(3,0)] (by simp[dProg]) rfl ⟨⟨by simp,by simp,by simp[cntOp],by simp[cntOp],by simp[cntOp]⟩,by simp⟩
  ·refine Ey.i out rfl rfl ⟨⟨hI.steps,by omega,Int.le_trans (hc 6) hp.takes,Int.le_trans (hc 7) hp.push,Int.le_trans (hc 8) hp.become⟩,?_⟩
   exact List.length_pos_iff.2 (by simpa using h)
theorem f105(n kinds rights:Int)(hn:0≤n∧n<256)(hk:1≤kinds∧kinds≤6)(hr:0≤rights∧rights≤4):Wf T 105 [.val (.int .u8 n),.i 8,.i kinds,.i rights] [] (Ey dProg fun r=>PrOK 8 kinds rights r∧1≤r.length):=by
 refine Yz F105 (insC 21 [0] F105.body) ?_
 simp[F105,insB,insC,befK,froK,hasK,headIs]
 have hU:∀ ρ H,fzR ρ H 39 1 0 5 (some (5,[.val (.int .u8 n),.val (.int .u8 (quoK .u8 n 16)),.val (.int .u8 (IntKind.u8.wrap (quoK .u8 n 16+remI n 5))),.val (.int .u8 (quoK .u8 n 3)),.val (.int .u8 n)]))=dU [n,quoK .u8 n 16,IntKind.u8.wrap (quoK .u8 n 16+remI n 5),quoK .u8 n 3,n]:=fun ρ H=>dU_lit _ rfl rfl
 rw[hU]
 have h16:=quoU8_in n 16
 have h3:=quoU8_in n 3
 have hw:=wrapU8_in (quoK .u8 n 16+remI n 5)
 have hb:∀ m∈[n,quoK .u8 n 16,IntKind.u8.wrap (quoK .u8 n 16+remI n 5),quoK .u8 n 3,n],0≤m∧m<256:=fun m hm=>by
  simp only[List.mem_cons,List.not_mem_nil,or_false]at hm
  omega
 refine Yq (f152 _ rfl hb) fun p hp=>?_
 simp
 refine Yq (f151 p kinds rights hp hk hr) fun q hq=>?_
 simp
 exact Ey.i q rfl rfl hq
def mkB(n:Int)(nx:List (List Int))(tn:List Int):Game:={ (default:Game)with size:=n,next:=nx,turn:=tn }
def bD(n:Int)(nx:List (List Int))(tn:List Int):D:=.agg [.i n,.sl 1 (nx.map fI),dI tn]
theorem f150(n:Int)(nx:List (List Int))(tn:List Int)(hb:BoardOK (mkB n nx tn))(c:Int)(hc:0≤c∧c<n):Wf T 150 [bD n nx tn,.i c] [] (Ey (fun x:List (List Int)=>.tup [bD n x tn,.i 0]) fun x=>BoardOK (mkB n x tn)):=by
 have hn:1≤n∧n≤9:=hb.size
 have hx:nx.length=8:=hb.next
 have ht:tn.length=8:=hb.turn
 have hrow:∀ l∈nx,(l.length:Int)=n∧∀ x∈l,-1≤x∧x<n:=hb.row
 refine Yz F150 (insC 63 [1008] F150.body) ?_
 simp[F150,insB,insC,befK,froK,hasK,headIs,bD]
 (with_reducible repeat' first|refine Xk ?_<;>try simp|refine Xs ?_ ?_<;>intro h<;>(try intro h')<;>(try simp[h])<;>(try omega)|refine Xg ?_|omega)
 refine XLoop.e ((0,0,[]):Int×Nat×List (List Int)) (fun y=>[(1,.i c),(2,.ptr 0 0 0),(4,.ptr 1 0 0),(6,.ptr 3 0 0),(7,.i y.1)]) (fun y=>.row 37 0 [.i n,.sl 1 (nx.map fI),dI tn] :: .row 37 0 [.i 0,.emp,.emp] :: .row 3 1 (cl f1 tn) :: .row 37 0 [.i n,(if y.1=0 then .emp else .osl 4 y.2.1 1 0 y.2.2.length),.osl 2 1 1 0 tn.length]::(if y.1=0 then []else [.row 33 y.2.1 (cl fI y.2.2)])) (fun y=>0≤y.1∧y.1≤8∧y.2.2.length=y.1.toNat∧∀ l∈y.2.2,(l.length:Int)=n∧∀ x∈l,-1≤x∧x<n) (fun y=>8-y.1.toNat) ?_ ?_
 ·simp
 rintro⟨i,gn,out⟩ ⟨i0,i1,i2,i3⟩
 dsimp only at i0 i1 i2 i3 ⊢
 by_cases hi:i<nx.length
 ·have hri:=hrow _ (gt_mem (l:=nx) i0 hi)
  by_cases hz:i=0
  ·have hout:out = []:=List.length_eq_zero_iff.1 (by omega)
   subst hz;subst hout
   simp[hx]
   refine XLoop.e ((0,[]):Int×List Int) (fun y=>[(1,.i c),(2,.ptr 0 0 0),(4,.ptr 1 0 0),(6,.ptr 3 0 0),(7,.i 0),(8,.osl 4 y.2.length 1 0 y.2.length),(9,.i y.1)]) (fun y=>[.row 37 0 [.i n,.sl 1 (nx.map fI),dI tn],.row 37 0 [.i 0,.emp,.emp],.row 3 1 (cl f1 tn),.row 37 0 [.i n,.emp,.osl 2 1 1 0 tn.length],.row 3 y.2.length (cl f1 y.2)]) (fun y=>0≤y.1∧y.1≤n∧y.2.length=y.1.toNat∧∀ x∈y.2,-1≤x∧x<n) (fun y=>n.toNat-y.1.toNat) ?_ ?_
   ·simp;omega
   rintro⟨j,row⟩ ⟨j0,j1,j2,j3⟩
   dsimp only at j0 j1 j2 j3 ⊢
   by_cases hj:j<n
   ·have hv:=hri.2 _ (gt_mem (l:=gt nx 0) j0 (by omega))
    simp[hx,hj]
    (with_reducible repeat' first|refine Xk ?_<;>try simp|refine Xs ?_ ?_<;>intro h<;>(try intro h')<;>(try simp[h])<;>(try omega)|refine Xg ?_|omega)
    ·refine LJ.i (j+1,row ++ [-1]) (by first|rfl|simp[*]) (by first|rfl|simp[*]) rfl rfl ?_
     dsimp only
     refine⟨by omega,by omega,by omega,by simp;omega,fun x hx=>?_⟩
     rcases List.mem_append.1 hx with hx|hx
     ·exact j3 x hx
     ·rw[List.mem_singleton]at hx;omega
    ·refine LJ.i (j+1,row ++ [-1]) (by first|rfl|simp[*]) (by first|rfl|simp[*]) rfl rfl ?_
     dsimp only
     refine⟨by omega,by omega,by omega,by simp;omega,fun x hx=>?_⟩
     rcases List.mem_append.1 hx with hx|hx
     ·exact j3 x hx
     ·rw[List.mem_singleton]at hx;omega
    ·refine LJ.e (j+1,row ++ [gt (gt nx 0) j]) ?_
     dsimp only
     refine⟨by omega,by omega,by omega,by simp;omega,fun x hx=>?_⟩
     rcases List.mem_append.1 hx with hx|hx
     ·exact j3 x hx
     ·rw[List.mem_singleton]at hx;omega
   ·simp[hx,hj]
    (with_reducible repeat' first|refine Xk ?_<;>try simp|refine Xs ?_ ?_<;>intro h<;>(try intro h')<;>(try simp[h])<;>(try omega)|refine Xg ?_|omega)
    refine LJ.i (1,0,[row]) (by first|rfl|simp[cl_one]) (by first|rfl|simp[cl_one]) rfl rfl ?_
    dsimp only
    refine⟨by omega,by omega,by omega,by simp,fun x hx=>?_⟩
    have hrw:(row.length:Int)=n∧∀ x∈row,-1≤x∧x<n:=⟨by omega,j3⟩
    rw[List.mem_singleton]at hx
    rw[hx];exact hrw
  ·simp[hi,hz]
   refine XLoop.e ((0,[]):Int×List Int) (fun y=>[(1,.i c),(2,.ptr 0 0 0),(4,.ptr 1 0 0),(6,.ptr 3 0 0),(7,.i i),(8,.osl 5 y.2.length 1 0 y.2.length),(9,.i y.1)]) (fun y=>[.row 37 0 [.i n,.sl 1 (nx.map fI),dI tn],.row 37 0 [.i 0,.emp,.emp],.row 3 1 (cl f1 tn),.row 37 0 [.i n,.osl 4 gn 1 0 out.length,.osl 2 1 1 0 tn.length],.row 33 gn (cl fI out),.row 3 y.2.length (cl f1 y.2)]) (fun y=>0≤y.1∧y.1≤n∧y.2.length=y.1.toNat∧∀ x∈y.2,-1≤x∧x<n) (fun y=>n.toNat-y.1.toNat) ?_ ?_
   ·simp;omega
   rintro⟨j,row⟩ ⟨j0,j1,j2,j3⟩
   dsimp only at j0 j1 j2 j3 ⊢
   by_cases hj:j<n
   ·have hv:=hri.2 _ (gt_mem (l:=gt nx i) j0 (by omega))
    simp[hi,hj,hz]
    (with_reducible repeat' first|refine Xk ?_<;>try simp[hz]|refine Xs ?_ ?_<;>intro h<;>(try intro h')<;>(try simp[h,hz])<;>(try omega)|refine Xg ?_|omega)
    ·refine LJ.i (j+1,row ++ [-1]) (by first|rfl|simp[*]) (by first|rfl|simp[*]) rfl rfl ?_
     dsimp only
     refine⟨by omega,by omega,by omega,by simp;omega,fun x hx=>?_⟩
     rcases List.mem_append.1 hx with hx|hx
     ·exact j3 x hx
     ·rw[List.mem_singleton]at hx;omega
    ·refine LJ.i (j+1,row ++ [-1]) (by first|rfl|simp[*]) (by first|rfl|simp[*]) rfl rfl ?_
     dsimp only
     refine⟨by omega,by omega,by omega,by simp;omega,fun x hx=>?_⟩
     rcases List.mem_append.1 hx with hx|hx
     ·exact j3 x hx
     ·rw[List.mem_singleton]at hx;omega
    ·refine LJ.e (j+1,row ++ [gt (gt nx i) j]) ?_
     dsimp only
     refine⟨by omega,by omega,by omega,by simp;omega,fun x hx=>?_⟩
     rcases List.mem_append.1 hx with hx|hx
     ·exact j3 x hx
     ·rw[List.mem_singleton]at hx;omega
   ·simp[hj,hz]
    (with_reducible repeat' first|refine Xk ?_<;>try simp[hz]|refine Xs ?_ ?_<;>intro h<;>(try intro h')<;>(try simp[h,hz])<;>(try omega)|refine Xg ?_|omega)
    refine LJ.i (i+1,gn+1,out ++ [row]) (by first|rfl|simp[show ¬ (i+1=0)by omega]) (by first|rfl|simp[show ¬ (i+1=0)by omega]) rfl rfl ?_
    dsimp only
    refine⟨by omega,by omega,by omega,by simp;omega,fun x hx=>?_⟩
    have hrw:(row.length:Int)=n∧∀ x∈row,-1≤x∧x<n:=⟨by omega,j3⟩
    rcases List.mem_append.1 hx with hx|hx
    ·exact i3 x hx
    ·rw[List.mem_singleton]at hx;rw[hx];exact hrw
 ·simp[hi,show ¬ i=0 by omega]
  exact Ey.i out (by simp) rfl ⟨hb.size,by show out.length=8;omega,i3,hb.turn,hb.turns⟩
end Go.Proofs.YtnaefnajkaohgaaGreatDoor
