/- 15 -/
import Derived.Test.YtnaefnajkaohgaaGreatDoorH14
set_option linter.all false
namespace Go.AL
open Go
section
variable{P:D→Prop}{a b:Int}{k:IntKind}{t:Tag P}
@[simp low] theorem aob:oA (jr .rem k a b) P t=(b≠0∧P (.val (.int k (eZ a b)))):=by
 cases t
 simp only[jr]
 by_cases h:b=0<;>simp[h,eZ]
def iV(k:IntKind)(a b:Int):Int:=k.wrap (a.tdiv b)
@[simp low] theorem an9:oA (jr .quo k a b) P t=(b≠0∧P (.val (.int k (iV k a b)))):=by
 cases t
 simp only[jr]
 by_cases h:b=0<;>simp[h,iV]
end
@[simp] theorem alQ{ρ:Nat→Option Nat}{H:U}{k:Nat}{t:TypeId}{a b:Int}:ng ρ H (k+1) 1 0 2 (some (t,[.i a,.i b]))=dI [a,b]:=by
 have h:=py (f:=f1) (ρ:=ρ) (H:=H) (k:=k) (t:=t) (l:=[a,b]) (n:=2) rfl
 rw[nK]at h
 simp only[List.map_cons,List.map_nil,vK,aL,c6,aw,bx,bt]at h
 rw[h];unfold dI;simp only[List.map_cons,List.map_nil,vK]
end Go.AL
namespace Go.Proofs.YtnaefnajkaohgaaGreatDoor
open Go Go.AL Classical
set_option maxRecDepth 10000
set_option maxHeartbeats 1000000
def dW(w:List Int):D:=.agg (w.map fun n=>.val (.int .u8 n))
def f34(g:eH)(hg:fe g)(a0 a1 a2 a3 a4 a5:Int)(h:∀ n∈[a0,a1,a2,a3,a4,a5],0≤n∧n<256):Wf T 34 [dG g,dW [a0,a1,a2,a3,a4,a5]] [] (Ey (fun r:List Int=>.agg [dI r]) fun r=>r.length=g.kinds.length):=by
 have hk:=hg.kinds
 refine Yg Fz ?_
 simp[Fz,dW]
 rcases(show g.kinds.length=1∨g.kinds.length=2 by omega)with e|e
 ·refine eN.un ?_
  refine iP.u ?_
  simp[e]
  refine iP.u ?_
  simp[e]
  exact Ey.i [IntKind.i64.wrap (eZ a0 8)] rfl rfl (by simp[e])
 ·refine eN.un ?_
  refine iP.u ?_
  simp[e]
  refine iP.u ?_
  simp[e]
  refine iP.u ?_
  simp[e]
  exact Ey.i [IntKind.i64.wrap (eZ a0 8),IntKind.i64.wrap (eZ a1 8)] rfl rfl (by simp[e])
end Go.Proofs.YtnaefnajkaohgaaGreatDoor
namespace Go.AL
open Go
@[irreducible] def fU(n:Int):List D:=[.val (.int .u8 n)]
@[simp] theorem Ki(n:Int):fU n = [.val (.int .u8 n)]:=by unfold fU;rfl
instance:Fl fU 1:=⟨fun _=>by simp,fun _=>by simp[fu]⟩
def dU(l:List Int):D:=.sl 1 (l.map fU)
@[simp] theorem akV(l:List Int):closed (dU l)=true:=by unfold dU;exact Bo l
@[simp] theorem am9(l:List Int)(H:U):oq .slice (dU l) H=some (.i l.length):=by simp[dU]
@[simp] theorem an3{l:List Int}{n:Int}{k:IntKind}{P:D→Prop}:oA (nS 1 (dU l) (.val (.int k n))) P .mk=((0≤n∧n<l.length)∧P (.eW [.val (.int .u8 (gt l n))])):=by unfold dU;rw[u4,Ki]
@[simp] theorem aqC(n:Nat)(l:List Int):gW n (dU l) = []:=rfl
structure s5(J7 kinds ff:Int)(l:List eO):Prop where
 steps:∀ x∈l,((x.1=1∨x.1=2∨x.1=7)∧0≤x.2∧x.2<J7)∨(3≤x.1∧x.1≤6∧x.2=0)∨(x.1=8∧0≤x.2∧x.2<kinds)∨((x.1=9∨x.1=10)∧0≤x.2∧x.2<ff)
 len:l.length≤8
 rX:mZ l 6≤2
 push:mZ l 7≤1
 Gv:mZ l 8≤1
@[simp] theorem ajl(a b:Int):jr .add .u8 a b=some (.val (.int .u8 (IntKind.u8.wrap (a+b)))):=rfl
theorem Tv(n:Int):0≤IntKind.u8.wrap n∧IntKind.u8.wrap n<256:=by
 simp only[IntKind.wrap,IntKind.bits,IntKind.signed]
 simp
 omega
def C5(a b:Int):0≤iV .u8 a b∧iV .u8 a b<256:=Tv _
def UY{ρ:Nat→Option Nat}{H:U}{k n:Nat}{t:TypeId}{cs:List D}(l:List Int)(h:cs=l.map fun n=>D.val (.int .u8 n))(hn:n=l.length):ng ρ H (k+1) 1 0 n (some (t,cs))=dU l:=by
 subst hn
 have e:cs=cl fU l:=by
  rw[h,nK]
  clear h
  induction l with
  | nil=>rfl
  | cons a r ih=>simp[← ih]
 rw[e,py rfl]
 rfl
def aaP{sz:Nat}{es:List (List D)}{k:IntKind}{n:Int}{P:D→Prop}:oA (nS sz (.sl sz es) (.val (.int k n))) P .mk=((0≤n∧n<es.length)∧P (.eW (es.getD n.toNat []))):=by
 simp only[nS,true_and,Ac,ye]
def oA.i{α:Type}{x:Option α}{P:α→Prop}{t:Tag P}{a:α}(h1:x=some a)(h2:P a):oA x P t:=⟨a,h1,h2⟩
end Go.AL
namespace Go.Proofs.YtnaefnajkaohgaaGreatDoor
open Go Go.AL Classical
set_option maxRecDepth 10000
set_option maxHeartbeats 4000000
def f192(l:List Int)(k:Int)(hk:0≤k:=by omega):Wf T 192 [dU l,.i k] [] (Is (.i (if k<l.length then IntKind.i64.wrap (gt l k)else 0))):=by
 refine Yg EO ?_
 simp[EO]
 (with_reducible repeat' first|refine Xk ?_<;>try simp|refine Xs ?_ ?_<;>intro h<;>(try intro h')<;>(try simp[h])<;>try omega|refine Xg ?_|omega)
 all_goals simp[*]
def uY(d o b k r:Int):List (List eO):=[[(1,d),(3,0)],[(1,d),(4,0),(6,0)],[(2,d)],[(2,d),(4,0),(6,0)],[(1,d),(4,0),(6,0),(1,d)],[(1,d),(1,o)],[(1,d),(7,d)],[(1,d),(3,0),(8,k)],[(9,r),(1,d),(1,d),(10,r)],[(1,d),(5,0),(1,d),(3,0)],[(10,r),(1,d)],[(1,d),(4,0),(6,0),(1,b)],[(1,d),(4,0),(6,0),(1,o),(4,0),(6,0)],[(2,d),(5,0),(1,d)],[(1,d),(4,0),(6,0),(8,k)],[(1,d),(7,d),(1,o)]]
def aah(d o b k r:Int)(hd:0≤d∧d<8)(ho:0≤o∧o<8)(hb:0≤b∧b<8)(hk:0≤k∧k<6)(hr:0≤r∧r<4):∀ p∈uY d o b k r,s5 8 6 4 p:=by
 have hp:∀ p:List eO,(∀ x∈p,((x.1=1∨x.1=2∨x.1=7)∧0≤x.2∧x.2<8)∨(3≤x.1∧x.1≤6∧x.2=0)∨(x.1=8∧0≤x.2∧x.2<6)∨((x.1=9∨x.1=10)∧0≤x.2∧x.2<4))→p.length≤8∧mZ p 6≤2∧mZ p 7≤1∧mZ p 8≤1→s5 8 6 4 p:=fun p a b=>⟨a,b.1,b.2.1,b.2.2.1,b.2.2.2⟩
 intro p h
 unfold uY at h
 simp only[au,cZ,or_false]at h
 rcases h with rfl|rfl|rfl|rfl|rfl|rfl|rfl|rfl|rfl|rfl|rfl|rfl|rfl|rfl|rfl|rfl
 all_goals
  refine hp _ ?_ ?_
  ·simp;omega
  ·simp[mZ]
def aag(d o b k r m:Int)(h0:0≤m)(h1:m<16):([[D.sl 2 [[D.i 1,D.i d],[D.i 3,D.i 0]]],[D.sl 2 [[D.i 1,D.i d],[D.i 4,D.i 0],[D.i 6,D.i 0]]],[D.sl 2 [[D.i 2,D.i d]]],[D.sl 2 [[D.i 2,D.i d],[D.i 4,D.i 0],[D.i 6,D.i 0]]],[D.sl 2 [[D.i 1,D.i d],[D.i 4,D.i 0],[D.i 6,D.i 0],[D.i 1,D.i d]]],[D.sl 2 [[D.i 1,D.i d],[D.i 1,D.i o]]],[D.sl 2 [[D.i 1,D.i d],[D.i 7,D.i d]]],[D.sl 2 [[D.i 1,D.i d],[D.i 3,D.i 0],[D.i 8,D.i k]]],[D.sl 2 [[D.i 9,D.i r],[D.i 1,D.i d],[D.i 1,D.i d],[D.i 10,D.i r]]],[D.sl 2 [[D.i 1,D.i d],[D.i 5,D.i 0],[D.i 1,D.i d],[D.i 3,D.i 0]]],[D.sl 2 [[D.i 10,D.i r],[D.i 1,D.i d]]],[D.sl 2 [[D.i 1,D.i d],[D.i 4,D.i 0],[D.i 6,D.i 0],[D.i 1,D.i b]]],[D.sl 2 [[D.i 1,D.i d],[D.i 4,D.i 0],[D.i 6,D.i 0],[D.i 1,D.i o],[D.i 4,D.i 0],[D.i 6,D.i 0]]],[D.sl 2 [[D.i 2,D.i d],[D.i 5,D.i 0],[D.i 1,D.i d]]],[D.sl 2 [[D.i 1,D.i d],[D.i 4,D.i 0],[D.i 6,D.i 0],[D.i 8,D.i k]]],[D.sl 2 [[D.i 1,D.i d],[D.i 7,D.i d],[D.i 1,D.i o]]]].getD m.toNat [])[0]? = some (fh (gt (uY d o b k r) m)):=by
 rcases(show m=0∨m=1∨m=2∨m=3∨m=4∨m=5∨m=6∨m=7∨m=8∨m=9∨m=10∨m=11∨m=12∨m=13∨m=14∨m=15 by omega)with rfl|rfl|rfl|rfl|rfl|rfl|rfl|rfl|rfl|rfl|rfl|rfl|rfl|rfl|rfl|rfl
 all_goals simp[uY,gt,fh]
def f152(l:List Int)(hl:l.length=5)(h:∀ n∈l,0≤n∧n<256):Wf T 152 [dU l] [] (Ey fh (s5 8 6 4)):=by
 have e:∀ k:Int,0≤k→k<5→(if k<l.length then IntKind.i64.wrap (gt l k)else 0)=gt l k:=fun k a b=>by
  rw[if_pos (by omega)]
  have:=h _ (eQ (l:=l) a (by omega))
  exact pf oO
 have hr:∀ k:Int,0≤k→k<5→0≤gt l k:=fun k a b=>(h _ (eQ (l:=l) a (by omega))).1
 refine Yz AJ (gL 121 [0,1,2,3,4,5,6,7,8,9,10,11,12,13,14,15,16,17,18,19,20,21,22,23,24,25,26,27,28] AJ.body) ?_
 simp[AJ,gL,jg,lD,lH,lS,ku]
 refine Yc (f192 l 1) ?_
 simp[e 1 (by omega) (by omega)]
 refine Yc (f192 l 2) ?_
 simp[e 2 (by omega) (by omega)]
 refine Yc (f192 l 3) ?_
 simp[e 3 (by omega) (by omega)]
 refine Yc (f192 l 4) ?_
 simp[e 4 (by omega) (by omega),ng,chunks]
 have r1:=kC (a:=gt l 1) (b:=8) (hr 1 (by omega) (by omega))
 have r2:=kC (a:=gt l 2) (b:=8) (hr 2 (by omega) (by omega))
 have r3:=kC (a:=gt l 3) (b:=6) (hr 3 (by omega) (by omega))
 have r4:=kC (a:=gt l 4) (b:=4) (hr 4 (by omega) (by omega))
 have r0:=kC (a:=gt l 0) (b:=16) (hr 0 (by omega) (by omega))
 have r5:=kC (a:=eZ (gt l 1) 8+4) (b:=8) (by omega)
 have YU:IntKind.i64.wrap (gt l 0)=gt l 0:=by
  have:=e 0 (by omega) (by omega)
  rwa [if_pos (by omega)]at this
 (with_reducible repeat' first|refine Xk ?_<;>try simp|refine Xs ?_ ?_<;>intro h<;>(try intro h')<;>(try simp[h])<;>try omega|refine Xg ?_|omega)
 refine Yc (f192 l 0) ?_
 simp[hl,YU,aaP,ng,chunks]
 (with_reducible repeat' first|refine Xk ?_<;>try simp|refine Xs ?_ ?_<;>intro h<;>(try intro h')<;>(try simp[h])<;>try omega|refine Xg ?_|omega)
 have XM:=aah (eZ (gt l 1) 8) (eZ (gt l 2) 8) (eZ (eZ (gt l 1) 8+4) 8) (eZ (gt l 3) 6) (eZ (gt l 4) 4) (by omega) (by omega) (by omega) (by omega) (by omega)
 have hlen:(uY (eZ (gt l 1) 8) (eZ (gt l 2) 8) (eZ (eZ (gt l 1) 8+4) 8) (eZ (gt l 3) 6) (eZ (gt l 4) 4)).length=16:=rfl
 have hg:∀ m:Int,0≤m→m<16→gt (uY (eZ (gt l 1) 8) (eZ (gt l 2) 8) (eZ (eZ (gt l 1) 8+4) 8) (eZ (gt l 3) 6) (eZ (gt l 4) 4)) m∈uY (eZ (gt l 1) 8) (eZ (gt l 2) 8) (eZ (eZ (gt l 1) 8+4) 8) (eZ (gt l 3) 6) (eZ (gt l 4) 4):=fun m a b=>eQ a (by omega)
 refine oA.i (a:=fh (gt (uY (eZ (gt l 1) 8) (eZ (gt l 2) 8) (eZ (eZ (gt l 1) 8+4) 8) (eZ (gt l 3) 6) (eZ (gt l 4) 4)) (eZ (gt l 0) 16))) ?_ ?_
 ·exact aag _ _ _ _ _ _ (by omega) (by omega)
 ·simp
  exact Ey.i (gt (uY (eZ (gt l 1) 8) (eZ (gt l 2) 8) (eZ (eZ (gt l 1) 8+4) 8) (eZ (gt l 3) 6) (eZ (gt l 4) 4)) (eZ (gt l 0) 16)) rfl rfl (XM _ (hg _ (by omega) (by omega)))
set_option maxHeartbeats 1000000
def Bq(l:List eO)(x:eO)(op:Int):mZ (l ++ [x]) op=mZ l op+(if x.1=op then 1 else 0):=by
 unfold mZ
 rw[cy]
 simp[cu]
 split<;>rfl
def qc(J7 kinds ff:Int)(x:eO):Prop:=((x.1=1∨x.1=2∨x.1=7)∧0≤x.2∧x.2<J7)∨(3≤x.1∧x.1≤6∧x.2=0)∨(x.1=8∧0≤x.2∧x.2<kinds)∨((x.1=9∨x.1=10)∧0≤x.2∧x.2<ff)
structure wI(p:List eO)(kinds ff:Int)(i:Int)(out:List eO):Prop where
 i0:0≤i∧i≤p.length
 steps:∀ x∈out,qc 8 kinds ff x
 JX:∀ op,mZ out op≤mZ (p.take i.toNat) op
 len:out.length≤i.toNat
def wI.add{p:List eO}{kinds ff i:Int}{out:List eO}(h:wI p kinds ff i out)(hi:i<p.length){x:eO}(hx:qc 8 kinds ff x)(he:x.1=(gt p i).1):wI p kinds ff (i+1) (out ++ [x]):=by
 have h0:=h.i0
 refine⟨by omega,fun y hy=>?_,fun op=>?_,by have:=h.len;simp;omega⟩
 ·rcases List.mem_append.1 hy with hy|hy
  ·exact h.steps y hy
  ·rw[List.mem_singleton]at hy;subst hy;exact hx
 ·rw[gx h0.1 hi,Bq,Bq,he]
  have:=h.JX op
  omega
def wI.skip{p:List eO}{kinds ff i:Int}{out:List eO}(h:wI p kinds ff i out)(hi:i<p.length):wI p kinds ff (i+1) out:=by
 have h0:=h.i0
 refine⟨by omega,h.steps,fun op=>?_,by have:=h.len;omega⟩
 rw[gx h0.1 hi,Bq]
 have:=h.JX op
 split<;>omega
def f151(p:List eO)(kinds ff:Int)(hp:s5 8 6 4 p)(hk:1≤kinds∧kinds≤6)(hr:0≤ff∧ff≤4):Wf T 151 [fh p,.i 8,.i kinds,.i ff] [] (Ey fh fun r=>s5 8 kinds ff r∧1≤r.length):=by
 have hl:=hp.len
 refine Yg Ep ?_
 simp[Ep]
 refine eN.e ((0,[]):Int×List eO) (fun y=>[(0,fh p),(1,.i 8),(2,.i kinds),(3,.i ff),(9,.eF 0 y.2.length 2 0 y.2.length),(10,.i y.1)]) (fun y=>[.row 82 y.2.length (cl fS y.2)]) (fun y=>wI p kinds ff y.1 y.2) (fun y=>p.length-y.1.toNat) ?_ ?_
 ·exact⟨by simp,by simp,by simp,by simp⟩
 rintro⟨i,out⟩ hI
 have h0:=hI.i0
 have h5:=hI.len
 dsimp only at hI h0 h5 ⊢
 by_cases hi:i<p.length
 ·have hx:=hp.steps _ (eQ h0.1 hi)
  have xy:=fun(x:eO)=>hI.add hi (x:=x)
  have tB:∀ b:Int,0<b→0≤(gt p i).2→0≤eZ (gt p i).2 b∧eZ (gt p i).2 b<b:=fun b h1 h2=>by
   rw[kC h2];exact⟨bW _ (by omega),bU _ h1⟩
  simp[hi]
  (with_reducible repeat' first|refine Xk ?_<;>try simp|refine Xs ?_ ?_<;>intro h<;>(try intro h')<;>(try simp[h])<;>try omega|refine Xg ?_|omega)
  ·refine LJ.e (i+1,out ++ [(1,eZ (gt p i).2 8)]) ?_
   have h8:=tB 8 (by omega)
   have ky:=tB kinds (by omega)
   exact nj (xy _ (by unfold qc;dsimp only;omega) (by dsimp only;omega))
  ·refine LJ.e (i+1,out ++ [(2,eZ (gt p i).2 8)]) ?_
   have h8:=tB 8 (by omega)
   have ky:=tB kinds (by omega)
   exact nj (xy _ (by unfold qc;dsimp only;omega) (by dsimp only;omega))
  ·refine LJ.e (i+1,out ++ [(7,eZ (gt p i).2 8)]) ?_
   have h8:=tB 8 (by omega)
   have ky:=tB kinds (by omega)
   exact nj (xy _ (by unfold qc;dsimp only;omega) (by dsimp only;omega))
  ·refine LJ.e (i+1,out ++ [(8,eZ (gt p i).2 kinds)]) ?_
   have h8:=tB 8 (by omega)
   have ky:=tB kinds (by omega)
   exact nj (xy _ (by unfold qc;dsimp only;omega) (by dsimp only;omega))
  ·refine LJ.i (i+1,out) (by first|rfl|simp[*]) (by first|rfl|simp[*]) rfl rfl ?_
   exact nj (hI.skip hi)
  ·have Cg:=tB ff (by omega)
   refine LJ.e (i+1,out ++ [((gt p i).1,eZ (gt p i).2 ff)]) ?_
   exact nj (xy _ (by unfold qc;dsimp only;omega) (by dsimp only))
  ·refine LJ.i (i+1,out) (by first|rfl|simp[*]) (by first|rfl|simp[*]) rfl rfl ?_
   exact nj (hI.skip hi)
  ·have Cg:=tB ff (by omega)
   refine LJ.e (i+1,out ++ [((gt p i).1,eZ (gt p i).2 ff)]) ?_
   exact nj (xy _ (by unfold qc;dsimp only;omega) (by dsimp only))
  ·refine LJ.e (i+1,out ++ [gt p i]) ?_
   exact nj (xy _ (by unfold qc;omega) rfl)
 ·simp[hi]
  have hc:=hI.JX
  rw[jh (by omega)]at hc
  (with_reducible repeat' first|refine Xk ?_<;>try simp|refine Xs ?_ ?_<;>intro h<;>(try intro h')<;>(try simp[h])<;>try omega|refine Xg ?_|omega)
  ·refine Ey.i [(3,0)] (by simp[fh]) rfl ⟨⟨by simp,by simp,by simp[mZ],by simp[mZ],by simp[mZ]⟩,by simp⟩
  ·refine Ey.i out rfl rfl ⟨⟨hI.steps,by omega,cY (hc 6) hp.rX,cY (hc 7) hp.push,cY (hc 8) hp.Gv⟩,?_⟩
   exact az.2 (by simpa using h)
def f105(n kinds ff:Int)(hn:0≤n∧n<256)(hk:1≤kinds∧kinds≤6:=by omega)(hr:0≤ff∧ff≤4:=by omega):Wf T 105 [.val (.int .u8 n),.i 8,.i kinds,.i ff] [] (Ey fh fun r=>s5 8 kinds ff r∧1≤r.length):=by
 refine Yz AB (jg 21 [0] AB.body) ?_
 simp[AB,gL,jg,lD,lH,lS,ku]
 have hU:∀ ρ H,ng ρ H 39 1 0 5 (some (5,[.val (.int .u8 n),.val (.int .u8 (iV .u8 n 16)),.val (.int .u8 (IntKind.u8.wrap (iV .u8 n 16+eZ n 5))),.val (.int .u8 (iV .u8 n 3)),.val (.int .u8 n)]))=dU [n,iV .u8 n 16,IntKind.u8.wrap (iV .u8 n 16+eZ n 5),iV .u8 n 3,n]:=fun ρ H=>UY _ rfl rfl
 rw[hU]
 have h16:=C5 n 16
 have h3:=C5 n 3
 have hw:=Tv (iV .u8 n 16+eZ n 5)
 have hb:∀ m∈[n,iV .u8 n 16,IntKind.u8.wrap (iV .u8 n 16+eZ n 5),iV .u8 n 3,n],0≤m∧m<256:=fun m hm=>by
  simp only[au,cZ,or_false]at hm
  omega
 refine Yq (f152 _ rfl hb) fun p hp=>?_
 simp
 refine Yq (f151 p kinds ff hp hk hr) fun q hq=>?_
 simp
 exact Ey.i q rfl rfl hq
def x8(n:Int)(nx:List (List Int))(tn:List Int):eH:={ (default:eH)with size:=n,next:=nx,gU:=tn }
def bD(n:Int)(nx:List (List Int))(tn:List Int):D:=.agg [.i n,.sl 1 (nx.map fI),dI tn]
def f150(n:Int)(nx:List (List Int))(tn:List Int)(hb:mX (x8 n nx tn))(c:Int)(hc:0≤c∧c<n):Wf T 150 [bD n nx tn,.i c] [] (Ey (fun x:List (List Int)=>.tup [bD n x tn,.i 0]) fun x=>mX (x8 n x tn)):=by
 have hn:1≤n∧n≤9:=hb.size
 have hx:nx.length=8:=hb.next
 have ht:tn.length=8:=hb.gU
 have gq:∀ l∈nx,(l.length:Int)=n∧∀ x∈l,-1≤x∧x<n:=hb.row
 refine Yz AI (jg 63 [1008] AI.body) ?_
 simp[AI,gL,jg,lD,lH,lS,ku,bD]
 (with_reducible repeat' first|refine Xk ?_<;>try simp|refine Xs ?_ ?_<;>intro h<;>(try intro h')<;>(try simp[h])<;>try omega|refine Xg ?_|omega)
 refine eN.e ((0,0,[]):Int×Nat×List (List Int)) (fun y=>[(1,.i c),(2,.ptr 0 0 0),(4,.ptr 1 0 0),(6,.ptr 3 0 0),(7,.i y.1)]) (fun y=>.row 37 0 [.i n,.sl 1 (nx.map fI),dI tn] :: .row 37 0 [.i 0,.eG,.eG] :: .row 3 1 (cl f1 tn) :: .row 37 0 [.i n,(if y.1=0 then .eG else .eF 4 y.2.1 1 0 y.2.2.length),.eF 2 1 1 0 tn.length]::(if y.1=0 then []else [.row 33 y.2.1 (cl fI y.2.2)])) (fun y=>0≤y.1∧y.1≤8∧y.2.2.length=y.1.toNat∧∀ l∈y.2.2,(l.length:Int)=n∧∀ x∈l,-1≤x∧x<n) (fun y=>8-y.1.toNat) ?_ ?_
 ·simp
 rintro⟨i,gn,out⟩ ⟨i0,i1,i2,i3⟩
 dsimp only at i0 i1 i2 i3 ⊢
 by_cases hi:i<nx.length
 ·have Qt:=gq _ (eQ (l:=nx) i0 hi)
  by_cases hz:i=0
  ·have lX:out = []:=aB.1 (by omega)
   subst hz;subst lX
   simp[hx]
   refine eN.e ((0,[]):Int×List Int) (fun y=>[(1,.i c),(2,.ptr 0 0 0),(4,.ptr 1 0 0),(6,.ptr 3 0 0),(7,.i 0),(8,.eF 4 y.2.length 1 0 y.2.length),(9,.i y.1)]) (fun y=>[.row 37 0 [.i n,.sl 1 (nx.map fI),dI tn],.row 37 0 [.i 0,.eG,.eG],.row 3 1 (cl f1 tn),.row 37 0 [.i n,.eG,.eF 2 1 1 0 tn.length],.row 3 y.2.length (cl f1 y.2)]) (fun y=>0≤y.1∧y.1≤n∧y.2.length=y.1.toNat∧∀ x∈y.2,-1≤x∧x<n) (fun y=>n.toNat-y.1.toNat) ?_ ?_
   ·simp;omega
   rintro⟨j,row⟩ ⟨j0,j1,j2,j3⟩
   dsimp only at j0 j1 j2 j3 ⊢
   by_cases hj:j<n
   ·have hv:=Qt.2 _ (eQ (l:=gt nx 0) j0 (by omega))
    simp[hx,hj]
    (with_reducible repeat' first|refine Xk ?_<;>try simp|refine Xs ?_ ?_<;>intro h<;>(try intro h')<;>(try simp[h])<;>try omega|refine Xg ?_|omega)
    ·refine LJ.i (j+1,row ++ [-1]) (by first|rfl|simp[*]) (by first|rfl|simp[*]) rfl rfl ?_
     dsimp only
     refine⟨by omega,by omega,by omega,by simp;omega,fun x hx=>?_⟩
     rcases List.mem_append.1 hx with hx|hx
     ·exact j3 x hx
     ·rw[List.mem_singleton]at hx;omega
    ·refine LJ.i (j+1,row ++ [-1]) (by first|rfl|simp[*]) (by first|rfl|simp[*]) rfl rfl ?_
     dsimp only
     refine⟨by omega,by omega,by omega,by simp;omega,fun x hx=>?_⟩
     rcases List.mem_append.1 hx with hx|hx
     ·exact j3 x hx
     ·rw[List.mem_singleton]at hx;omega
    ·refine LJ.e (j+1,row ++ [gt (gt nx 0) j]) ?_
     dsimp only
     refine⟨by omega,by omega,by omega,by simp;omega,fun x hx=>?_⟩
     rcases List.mem_append.1 hx with hx|hx
     ·exact j3 x hx
     ·rw[List.mem_singleton]at hx;omega
   ·simp[hx,hj]
    (with_reducible repeat' first|refine Xk ?_<;>try simp|refine Xs ?_ ?_<;>intro h<;>(try intro h')<;>(try simp[h])<;>try omega|refine Xg ?_|omega)
    refine LJ.i (1,0,[row]) (by first|rfl|simp[ix]) (by first|rfl|simp[ix]) rfl rfl ?_
    dsimp only
    refine⟨by omega,by omega,by omega,by simp,fun x hx=>?_⟩
    have uS:(row.length:Int)=n∧∀ x∈row,-1≤x∧x<n:=⟨by omega,j3⟩
    rw[List.mem_singleton]at hx
    rw[hx];exact uS
  ·simp[hi,hz]
   refine eN.e ((0,[]):Int×List Int) (fun y=>[(1,.i c),(2,.ptr 0 0 0),(4,.ptr 1 0 0),(6,.ptr 3 0 0),(7,.i i),(8,.eF 5 y.2.length 1 0 y.2.length),(9,.i y.1)]) (fun y=>[.row 37 0 [.i n,.sl 1 (nx.map fI),dI tn],.row 37 0 [.i 0,.eG,.eG],.row 3 1 (cl f1 tn),.row 37 0 [.i n,.eF 4 gn 1 0 out.length,.eF 2 1 1 0 tn.length],.row 33 gn (cl fI out),.row 3 y.2.length (cl f1 y.2)]) (fun y=>0≤y.1∧y.1≤n∧y.2.length=y.1.toNat∧∀ x∈y.2,-1≤x∧x<n) (fun y=>n.toNat-y.1.toNat) ?_ ?_
   ·simp;omega
   rintro⟨j,row⟩ ⟨j0,j1,j2,j3⟩
   dsimp only at j0 j1 j2 j3 ⊢
   by_cases hj:j<n
   ·have hv:=Qt.2 _ (eQ (l:=gt nx i) j0 (by omega))
    simp[hi,hj,hz]
    (with_reducible repeat' first|refine Xk ?_<;>try simp[hz]|refine Xs ?_ ?_<;>intro h<;>(try intro h')<;>(try simp[h,hz])<;>try omega|refine Xg ?_|omega)
    ·refine LJ.i (j+1,row ++ [-1]) (by first|rfl|simp[*]) (by first|rfl|simp[*]) rfl rfl ?_
     dsimp only
     refine⟨by omega,by omega,by omega,by simp;omega,fun x hx=>?_⟩
     rcases List.mem_append.1 hx with hx|hx
     ·exact j3 x hx
     ·rw[List.mem_singleton]at hx;omega
    ·refine LJ.i (j+1,row ++ [-1]) (by first|rfl|simp[*]) (by first|rfl|simp[*]) rfl rfl ?_
     dsimp only
     refine⟨by omega,by omega,by omega,by simp;omega,fun x hx=>?_⟩
     rcases List.mem_append.1 hx with hx|hx
     ·exact j3 x hx
     ·rw[List.mem_singleton]at hx;omega
    ·refine LJ.e (j+1,row ++ [gt (gt nx i) j]) ?_
     dsimp only
     refine⟨by omega,by omega,by omega,by simp;omega,fun x hx=>?_⟩
     rcases List.mem_append.1 hx with hx|hx
     ·exact j3 x hx
     ·rw[List.mem_singleton]at hx;omega
   ·simp[hj,hz]
    (with_reducible repeat' first|refine Xk ?_<;>try simp[hz]|refine Xs ?_ ?_<;>intro h<;>(try intro h')<;>(try simp[h,hz])<;>try omega|refine Xg ?_|omega)
    refine LJ.i (i+1,gn+1,out ++ [row]) (by first|rfl|simp[show ¬ (i+1=0)by omega]) (by first|rfl|simp[show ¬ (i+1=0)by omega]) rfl rfl ?_
    dsimp only
    refine⟨by omega,by omega,by omega,by simp;omega,fun x hx=>?_⟩
    have uS:(row.length:Int)=n∧∀ x∈row,-1≤x∧x<n:=⟨by omega,j3⟩
    rcases List.mem_append.1 hx with hx|hx
    ·exact i3 x hx
    ·rw[List.mem_singleton]at hx;rw[hx];exact uS
 ·simp[hi,show ¬ i=0 by omega]
  exact Ey.i out (by simp) rfl ⟨hb.size,by show out.length=8;omega,i3,hb.gU,hb.turns⟩
