/- Part 17 of TableHurry. -/
import Derived.Test.YtnaefnajkaohgaaGreatDoorG16
set_option linter.all false
namespace Go.Proofs.YtnaefnajkaohgaaGreatDoor
open Go Go.AL Classical
set_option maxRecDepth 10000
set_option maxHeartbeats 1000000
theorem xI(l:List eI)(x:eI)(op:Int):kW (l ++ [x]) op=kW l op+(if x.1=op then 1 else 0):=by
 unfold kW
 rw[cd]
 simp[b8]
 split<;>rfl
def nB(FB kinds eR:Int)(x:eI):Prop:=((x.1=1∨x.1=2∨x.1=7)∧0≤x.2∧x.2<FB)∨(3≤x.1∧x.1≤6∧x.2=0)∨(x.1=8∧0≤x.2∧x.2<kinds)∨((x.1=9∨x.1=10)∧0≤x.2∧x.2<eR)
structure ti(p:List eI)(kinds eR:Int)(i:Int)(out:List eI):Prop where
 i0:0≤i∧i≤p.length
 steps:∀ x∈out,nB 8 kinds eR x
 Fq:∀ op,kW out op≤kW (p.take i.toNat) op
 len:out.length≤i.toNat
theorem ti.add{p:List eI}{kinds eR i:Int}{out:List eI}(h:ti p kinds eR i out)(hi:i<p.length){x:eI}(hx:nB 8 kinds eR x)(he:x.1=(gt p i).1):ti p kinds eR (i+1) (out ++ [x]):=by
 have h0:=h.i0
 refine⟨by omega,fun y hy=>?_,fun op=>?_,by have:=h.len;simp;omega⟩
 ·rcases List.mem_append.1 hy with hy|hy
  ·exact h.steps y hy
  ·rw[List.mem_singleton]at hy;subst hy;exact hx
 ·rw[gj h0.1 hi,xI,xI,he]
  have:=h.Fq op
  omega
theorem ti.skip{p:List eI}{kinds eR i:Int}{out:List eI}(h:ti p kinds eR i out)(hi:i<p.length):ti p kinds eR (i+1) out:=by
 have h0:=h.i0
 refine⟨by omega,h.steps,fun op=>?_,by have:=h.len;omega⟩
 rw[gj h0.1 hi,xI]
 have:=h.Fq op
 split<;>omega
theorem f151(p:List eI)(kinds eR:Int)(hp:pY 8 6 4 p)(hk:1≤kinds∧kinds≤6)(hr:0≤eR∧eR≤4):Wf T 151 [ft p,.i 8,.i kinds,.i eR] [] (Ey ft fun r=>pY 8 kinds eR r∧1≤r.length):=by
 have hl:=hp.len
 refine Yg AM ?_
 simp[AM]
 refine eF.e ((0,[]):Int×List eI) (fun y=>[(0,ft p),(1,.i 8),(2,.i kinds),(3,.i eR),(9,.eu 0 y.2.length 2 0 y.2.length),(10,.i y.1)]) (fun y=>[.row 82 y.2.length (cl fS y.2)]) (fun y=>ti p kinds eR y.1 y.2) (fun y=>p.length-y.1.toNat) ?_ ?_
 ·exact⟨by simp,by simp,by simp,by simp⟩
 rintro⟨i,out⟩ hI
 have h0:=hI.i0
 have h5:=hI.len
 dsimp only at hI h0 h5 ⊢
 by_cases hi:i<p.length
 ·have hx:=hp.steps _ (eH h0.1 hi)
  have tW:=fun(x:eI)=>hI.add hi (x:=x)
  have qu:∀ b:Int,0<b→0≤(gt p i).2→0≤eO (gt p i).2 b∧eO (gt p i).2 b<b:=fun b h1 h2=>by
   rw[jo h2];exact⟨bY _ (by omega),bS _ h1⟩
  simp[hi]
  (with_reducible repeat' first|refine Xk ?_<;>try simp|refine Xs ?_ ?_<;>intro h<;>(try intro h')<;>(try simp[h])<;>(try omega)|refine Xg ?_|omega)
  ·refine LJ.e (i+1,out ++ [(1,eO (gt p i).2 8)]) ?_
   have h8:=qu 8 (by omega)
   have jG:=qu kinds (by omega)
   exact⟨by dsimp only;omega,tW _ (by unfold nB;dsimp only;omega) (by dsimp only;omega)⟩
  ·refine LJ.e (i+1,out ++ [(2,eO (gt p i).2 8)]) ?_
   have h8:=qu 8 (by omega)
   have jG:=qu kinds (by omega)
   exact⟨by dsimp only;omega,tW _ (by unfold nB;dsimp only;omega) (by dsimp only;omega)⟩
  ·refine LJ.e (i+1,out ++ [(7,eO (gt p i).2 8)]) ?_
   have h8:=qu 8 (by omega)
   have jG:=qu kinds (by omega)
   exact⟨by dsimp only;omega,tW _ (by unfold nB;dsimp only;omega) (by dsimp only;omega)⟩
  ·refine LJ.e (i+1,out ++ [(8,eO (gt p i).2 kinds)]) ?_
   have h8:=qu 8 (by omega)
   have jG:=qu kinds (by omega)
   exact⟨by dsimp only;omega,tW _ (by unfold nB;dsimp only;omega) (by dsimp only;omega)⟩
  ·refine LJ.i (i+1,out) (by first|rfl|simp[*]) (by first|rfl|simp[*]) rfl rfl ?_
   exact⟨by dsimp only;omega,hI.skip hi⟩
  ·have GV:=qu eR (by omega)
   refine LJ.e (i+1,out ++ [((gt p i).1,eO (gt p i).2 eR)]) ?_
   exact⟨by dsimp only;omega,tW _ (by unfold nB;dsimp only;omega) (by dsimp only)⟩
  ·refine LJ.i (i+1,out) (by first|rfl|simp[*]) (by first|rfl|simp[*]) rfl rfl ?_
   exact⟨by dsimp only;omega,hI.skip hi⟩
  ·have GV:=qu eR (by omega)
   refine LJ.e (i+1,out ++ [((gt p i).1,eO (gt p i).2 eR)]) ?_
   exact⟨by dsimp only;omega,tW _ (by unfold nB;dsimp only;omega) (by dsimp only)⟩
  ·refine LJ.e (i+1,out ++ [gt p i]) ?_
   exact⟨by dsimp only;omega,tW _ (by unfold nB;omega) rfl⟩
 ·simp[hi]
  have hc:=hI.Fq
  rw[iH (by omega)]at hc
  (with_reducible repeat' first|refine Xk ?_<;>try simp|refine Xs ?_ ?_<;>intro h<;>(try intro h')<;>(try simp[h])<;>(try omega)|refine Xg ?_|omega)
  ·refine Ey.i [(3,0)] (by simp[ft]) rfl ⟨⟨by simp,by simp,by simp[kW],by simp[kW],by simp[kW]⟩,by simp⟩
  ·refine Ey.i out rfl rfl ⟨⟨hI.steps,by omega,cQ (hc 6) hp.pc,cQ (hc 7) hp.push,cQ (hc 8) hp.Co⟩,?_⟩
   exact aB.2 (by simpa using h)
theorem f105(n kinds eR:Int)(hn:0≤n∧n<256)(hk:1≤kinds∧kinds≤6)(hr:0≤eR∧eR≤4):Wf T 105 [.val (.int .u8 n),.i 8,.i kinds,.i eR] [] (Ey ft fun r=>pY 8 kinds eR r∧1≤r.length):=by
 refine Yz wU (iA 21 [0] wU.body) ?_
 simp[wU,gu,iA,kG,kI,kR,jE]
 have hU:∀ ρ H,lz ρ H 39 1 0 5 (some (5,[.val (.int .u8 n),.val (.int .u8 (gW .u8 n 16)),.val (.int .u8 (IntKind.u8.wrap (gW .u8 n 16+eO n 5))),.val (.int .u8 (gW .u8 n 3)),.val (.int .u8 n)]))=dU [n,gW .u8 n 16,IntKind.u8.wrap (gW .u8 n 16+eO n 5),gW .u8 n 3,n]:=fun ρ H=>Pz _ rfl rfl
 rw[hU]
 have h16:=zo n 16
 have h3:=zo n 3
 have hw:=Oh (gW .u8 n 16+eO n 5)
 have hb:∀ m∈[n,gW .u8 n 16,IntKind.u8.wrap (gW .u8 n 16+eO n 5),gW .u8 n 3,n],0≤m∧m<256:=fun m hm=>by
  simp only[ax,cG,or_false]at hm
  omega
 refine Yq (f152 _ rfl hb) fun p hp=>?_
 simp
 refine Yq (f151 p kinds eR hp hk hr) fun q hq=>?_
 simp
 exact Ey.i q rfl rfl hq
def uJ(n:Int)(nx:List (List Int))(tn:List Int):ey:={ (default:ey)with size:=n,next:=nx,gE:=tn }
def bD(n:Int)(nx:List (List Int))(tn:List Int):D:=.agg [.i n,.sl 1 (nx.map fI),dI tn]
theorem f150(n:Int)(nx:List (List Int))(tn:List Int)(hb:kT (uJ n nx tn))(c:Int)(hc:0≤c∧c<n):Wf T 150 [bD n nx tn,.i c] [] (Ey (fun x:List (List Int)=>.tup [bD n x tn,.i 0]) fun x=>kT (uJ n x tn)):=by
 have hn:1≤n∧n≤9:=hb.size
 have hx:nx.length=8:=hb.next
 have ht:tn.length=8:=hb.gE
 have fy:∀ l∈nx,(l.length:Int)=n∧∀ x∈l,-1≤x∧x<n:=hb.row
 refine Yz wX (iA 63 [1008] wX.body) ?_
 simp[wX,gu,iA,kG,kI,kR,jE,bD]
 (with_reducible repeat' first|refine Xk ?_<;>try simp|refine Xs ?_ ?_<;>intro h<;>(try intro h')<;>(try simp[h])<;>(try omega)|refine Xg ?_|omega)
 refine eF.e ((0,0,[]):Int×Nat×List (List Int)) (fun y=>[(1,.i c),(2,.ptr 0 0 0),(4,.ptr 1 0 0),(6,.ptr 3 0 0),(7,.i y.1)]) (fun y=>.row 37 0 [.i n,.sl 1 (nx.map fI),dI tn] :: .row 37 0 [.i 0,.U,.U] :: .row 3 1 (cl f1 tn) :: .row 37 0 [.i n,(if y.1=0 then .U else .eu 4 y.2.1 1 0 y.2.2.length),.eu 2 1 1 0 tn.length]::(if y.1=0 then []else [.row 33 y.2.1 (cl fI y.2.2)])) (fun y=>0≤y.1∧y.1≤8∧y.2.2.length=y.1.toNat∧∀ l∈y.2.2,(l.length:Int)=n∧∀ x∈l,-1≤x∧x<n) (fun y=>8-y.1.toNat) ?_ ?_
 ·simp
 rintro⟨i,gn,out⟩ ⟨i0,i1,i2,i3⟩
 dsimp only at i0 i1 i2 i3 ⊢
 by_cases hi:i<nx.length
 ·have LQ:=fy _ (eH (l:=nx) i0 hi)
  by_cases hz:i=0
  ·have ki:out = []:=aA.1 (by omega)
   subst hz;subst ki
   simp[hx]
   refine eF.e ((0,[]):Int×List Int) (fun y=>[(1,.i c),(2,.ptr 0 0 0),(4,.ptr 1 0 0),(6,.ptr 3 0 0),(7,.i 0),(8,.eu 4 y.2.length 1 0 y.2.length),(9,.i y.1)]) (fun y=>[.row 37 0 [.i n,.sl 1 (nx.map fI),dI tn],.row 37 0 [.i 0,.U,.U],.row 3 1 (cl f1 tn),.row 37 0 [.i n,.U,.eu 2 1 1 0 tn.length],.row 3 y.2.length (cl f1 y.2)]) (fun y=>0≤y.1∧y.1≤n∧y.2.length=y.1.toNat∧∀ x∈y.2,-1≤x∧x<n) (fun y=>n.toNat-y.1.toNat) ?_ ?_
   ·simp;omega
   rintro⟨j,row⟩ ⟨j0,j1,j2,j3⟩
   dsimp only at j0 j1 j2 j3 ⊢
   by_cases hj:j<n
   ·have hv:=LQ.2 _ (eH (l:=gt nx 0) j0 (by omega))
    simp[hx,hj]
    (with_reducible repeat' first|refine Xk ?_<;>try simp|refine Xs ?_ ?_<;>intro h<;>(try intro h')<;>(try simp[h])<;>(try omega)|refine Xg ?_|omega)
    ·refine LJ.i (j+1,row ++ [-1]) (by first|rfl|simp[*]) (by first|rfl|simp[*]) rfl rfl ?_
     dsimp only
     refine⟨by omega,by omega,by omega,by simp;omega,fun x hx=>?_⟩
     rcases List.mem_append.1 hx with hx|hx
     ·exact j3 x hx
     ·rw[List.mem_singleton]at hx;omega
    ·refine LJ.i (j+1,row ++ [-1]) (by first|rfl|simp[*]) (by first|rfl|simp[*]) rfl rfl ?_
     dsimp only
     refine⟨by omega,by omega,by omega,by simp;omega,fun x hx=>?_⟩
     rcases List.mem_append.1 hx with hx|hx
     ·exact j3 x hx
     ·rw[List.mem_singleton]at hx;omega
    ·refine LJ.e (j+1,row ++ [gt (gt nx 0) j]) ?_
     dsimp only
     refine⟨by omega,by omega,by omega,by simp;omega,fun x hx=>?_⟩
     rcases List.mem_append.1 hx with hx|hx
     ·exact j3 x hx
     ·rw[List.mem_singleton]at hx;omega
   ·simp[hx,hj]
    (with_reducible repeat' first|refine Xk ?_<;>try simp|refine Xs ?_ ?_<;>intro h<;>(try intro h')<;>(try simp[h])<;>(try omega)|refine Xg ?_|omega)
    refine LJ.i (1,0,[row]) (by first|rfl|simp[gZ]) (by first|rfl|simp[gZ]) rfl rfl ?_
    dsimp only
    refine⟨by omega,by omega,by omega,by simp,fun x hx=>?_⟩
    have rz:(row.length:Int)=n∧∀ x∈row,-1≤x∧x<n:=⟨by omega,j3⟩
    rw[List.mem_singleton]at hx
    rw[hx];exact rz
  ·simp[hi,hz]
   refine eF.e ((0,[]):Int×List Int) (fun y=>[(1,.i c),(2,.ptr 0 0 0),(4,.ptr 1 0 0),(6,.ptr 3 0 0),(7,.i i),(8,.eu 5 y.2.length 1 0 y.2.length),(9,.i y.1)]) (fun y=>[.row 37 0 [.i n,.sl 1 (nx.map fI),dI tn],.row 37 0 [.i 0,.U,.U],.row 3 1 (cl f1 tn),.row 37 0 [.i n,.eu 4 gn 1 0 out.length,.eu 2 1 1 0 tn.length],.row 33 gn (cl fI out),.row 3 y.2.length (cl f1 y.2)]) (fun y=>0≤y.1∧y.1≤n∧y.2.length=y.1.toNat∧∀ x∈y.2,-1≤x∧x<n) (fun y=>n.toNat-y.1.toNat) ?_ ?_
   ·simp;omega
   rintro⟨j,row⟩ ⟨j0,j1,j2,j3⟩
   dsimp only at j0 j1 j2 j3 ⊢
   by_cases hj:j<n
   ·have hv:=LQ.2 _ (eH (l:=gt nx i) j0 (by omega))
    simp[hi,hj,hz]
    (with_reducible repeat' first|refine Xk ?_<;>try simp[hz]|refine Xs ?_ ?_<;>intro h<;>(try intro h')<;>(try simp[h,hz])<;>(try omega)|refine Xg ?_|omega)
    ·refine LJ.i (j+1,row ++ [-1]) (by first|rfl|simp[*]) (by first|rfl|simp[*]) rfl rfl ?_
     dsimp only
     refine⟨by omega,by omega,by omega,by simp;omega,fun x hx=>?_⟩
     rcases List.mem_append.1 hx with hx|hx
     ·exact j3 x hx
     ·rw[List.mem_singleton]at hx;omega
    ·refine LJ.i (j+1,row ++ [-1]) (by first|rfl|simp[*]) (by first|rfl|simp[*]) rfl rfl ?_
     dsimp only
     refine⟨by omega,by omega,by omega,by simp;omega,fun x hx=>?_⟩
     rcases List.mem_append.1 hx with hx|hx
     ·exact j3 x hx
     ·rw[List.mem_singleton]at hx;omega
    ·refine LJ.e (j+1,row ++ [gt (gt nx i) j]) ?_
     dsimp only
     refine⟨by omega,by omega,by omega,by simp;omega,fun x hx=>?_⟩
     rcases List.mem_append.1 hx with hx|hx
     ·exact j3 x hx
     ·rw[List.mem_singleton]at hx;omega
   ·simp[hj,hz]
    (with_reducible repeat' first|refine Xk ?_<;>try simp[hz]|refine Xs ?_ ?_<;>intro h<;>(try intro h')<;>(try simp[h,hz])<;>(try omega)|refine Xg ?_|omega)
    refine LJ.i (i+1,gn+1,out ++ [row]) (by first|rfl|simp[show ¬ (i+1=0)by omega]) (by first|rfl|simp[show ¬ (i+1=0)by omega]) rfl rfl ?_
    dsimp only
    refine⟨by omega,by omega,by omega,by simp;omega,fun x hx=>?_⟩
    have rz:(row.length:Int)=n∧∀ x∈row,-1≤x∧x<n:=⟨by omega,j3⟩
    rcases List.mem_append.1 hx with hx|hx
    ·exact i3 x hx
    ·rw[List.mem_singleton]at hx;rw[hx];exact rz
 ·simp[hi,show ¬ i=0 by omega]
  exact Ey.i out (by simp) rfl ⟨hb.size,by show out.length=8;omega,i3,hb.gE,hb.turns⟩
