/- Part 19 of the proof of skewer.skewerlaw15.TableZero. -/
import Derived.Test.YtnaefnajkaohgaaGreatDoorF18
import Derived.Test.YtnaefnajkaohgaaGreatDoorF16
set_option linter.all false
namespace Go.Proofs.YtnaefnajkaohgaaGreatDoor
open Go Go.AL Classical
set_option maxRecDepth 10000
set_option maxHeartbeats 1000000
@[simp] theorem ad3(n:Int)(nx:List (List Int))(tn:List Int):closed (bD n nx tn)=true:=by simp[bD]
theorem f104(w tP c:Int)(hw:0≤w∧w<256)(hh:0≤tP∧tP<256)(hc:0≤c∧c<256):Wf T 104 [.val (.int .u8 w),.val (.int .u8 tP),.val (.int .u8 c)] [] (Ey (fun x:Int×List (List Int)×List Int=>bD x.1 x.2.1 x.2.2) fun x=>kN (uu x.1 x.2.1 x.2.2)):=by
 have w1:=jk (a:=w) (b:=3) hw.1
 have h1:=jk (a:=tP) (b:=3) hh.1
 have w2:IntKind.i64.wrap (eM w 3)=eM w 3:=mQ ⟨by omega,by omega⟩
 have h2:IntKind.i64.wrap (eM tP 3)=eM tP 3:=mQ ⟨by omega,by omega⟩
 have c2:IntKind.i64.wrap c=c:=mQ ⟨by omega,by omega⟩
 refine Yg zY ?_
 simp[zY,w2,h2]
 (with_reducible repeat' first|refine Xk ?_<;>try simp|refine Xs ?_ ?_<;>intro h<;>(try intro h')<;>(try simp[h])<;>(try omega)|refine Xg ?_|omega)
 obtain⟨n,nx,tn,hg,hb⟩:=f149 (1+eM w 3) (1+eM tP 3) (by omega) (by omega)
 have hn:1≤n∧n≤9:=hb.size
 refine eS.c rfl rfl hg (by simp) (by simp[bD]) ?_
 simp[bD,c2]
 (with_reducible repeat' first|refine Xk ?_<;>try simp|refine Xs ?_ ?_<;>intro h<;>(try intro h')<;>(try simp[h])<;>(try omega)|refine Xg ?_|omega)
 ·rw[c2]
  have hr:=jk (a:=c) (b:=n) hc.1
  have qg:=bY c (show n≠0 by omega)
  have yf:=bS c (show 0<n by omega)
  refine Yv (f150 n nx tn hb (eM c n) (by omega)) fun x hx=>?_
  simp
  simp[bD]
  exact Ey.i (n,x,tn) rfl rfl hx
 ·exact Ey.i (n,nx,tn) rfl rfl hb
set_option maxRecDepth 10000
set_option maxHeartbeats 1000000
theorem ib.s{T:fE}{n:Nat}{live:List Nat}{a:IR}{s s':St}{K:gh}(hs:s=s')(h:ib T n live a s' K .mk):ib T n live a s K .mk:=by subst hs;exact h
theorem eE.s{T:fE}{live:List Nat}{a:IR}{s s':St}{K:gh}(hs:s=s')(h:eE T live a s' K .mk):eE T live a s K .mk:=by subst hs;exact h
theorem JI(l:List Int):cl fU l=l.map fun n=>D.val (.int .u8 n):=by
 rw[lF]
 induction l with
 | nil=>rfl
 | cons a r ih=>simp[← ih]
@[simp] theorem agY{l:List Int}{k:Nat}{P:D→Prop}:oA (cl fU l)[k]? P .mk=(k<l.length∧P (.val (.int .u8 (gt l k)))):=by
 rw[JI]
 by_cases h:k<l.length
 ·simp[h,gt]
 ·simp[h]
@[simp] theorem acM{l:List Int}{k:Nat}(h:k<(cl fU l).length):(cl fU l)[k] = .val (.int .u8 (gt l k)):=by
 have h':k<l.length:=by simpa using h
 simp[JI,gt,h']
theorem f59(g:ew)(hg:eU g)(l:List Int)(hl:l.length=18)(h:∀ n∈l,0≤n∧n<256) :
  Wf T 59 [dG g,.agg (cl fU l)] [] (Ey dP (fj g)):=by
 have hb:=hg.gF.size
 have hk:=hg.kinds
 have hr:=hg.eQ
 have h4:=H8 hr.1 (by omega)
 have h5:=wh hr.1 (by omega)
 have h6:(0:Int)<2 ^ g.eQ.toNat:=Int.pow_pos (by decide)
 have hu:∀ k:Nat,k<18→0≤gt l k∧gt l k<256:=fun k hk=>h _ (eI (by omega) (by omega))
 have hw:∀ k:Nat,k<18→IntKind.i64.wrap (gt l k)=gt l k:=fun k hk=>by
  have:=hu k hk
  exact mQ ⟨by omega,by omega⟩
 have Dx:=hw 16 (by omega)
 have Sf:=hw 17 (by omega)
 have LK:=hu 16 (by omega)
 have LL:=hu 17 (by omega)
 simp at Dx Sf LK LL
 have r16:=jk (a:=gt l 16) (b:=2 ^ g.eQ.toNat) LK.1
 have m16:=bY (gt l 16) (show(2:Int) ^ g.eQ.toNat≠0 by omega)
 have n16:=bS (gt l 16) h6
 have r17:=jk (a:=gt l 17) (b:=2) LL.1
 have Ik:IntKind.i64.wrap (eM (gt l 17) 2)=eM (gt l 17) 2:=mQ ⟨by omega,by omega⟩
 have hR:0≤eM (gt l 16) (2 ^ g.eQ.toNat)∧eM (gt l 16) (2 ^ g.eQ.toNat)<2 ^ g.eQ.toNat:=by omega
 have hS:0≤eM (gt l 17) 2∧eM (gt l 17) 2≤1:=by omega
 refine Yg BG ?_
 simp[BG,h4,hl,Dx,Ik]
 generalize eM (gt l 16) (2 ^ g.eQ.toNat)=R at *
 generalize eM (gt l 17) 2=S at *
 (with_reducible repeat' first|refine Xk ?_<;>try simp[h4,hl,Dx,Ik]|refine Xs ?_ ?_<;>intro h<;>(try intro h')<;>(try simp[h,h4,hl,Dx,Ik])<;>(try omega)|refine Xg ?_|omega)
 refine eE.e ((0,List.replicate g.size.toNat 0):Int×List Int) (fun y=>[(2,.ptr 0 0 0),(3,.ptr 1 0 0),(4,.ptr 2 0 0),(5,.ptr 4 0 0),(6,.i y.1)]) (fun y=>[.row 41 0 g.cells,.row 30 0 (cl fU l),.row 44 0 [.emp,.emp,.emp,.i 0,.i 0],.row 3 0 (cl f1 y.2),.row 44 0 [.et 3 0 1 0 g.size.toNat,.emp,.emp,.i R,.i S]]) (fun y=>0≤y.1∧y.1≤6∧y.2.length=g.size.toNat∧∀ x∈y.2,0≤x∧x≤2*g.kinds.length) (fun y=>6-y.1.toNat) ?_ ?_
 ·simp
  (with_reducible repeat' first|refine Xk ?_<;>try simp|refine Xs ?_ ?_<;>intro h<;>(try intro h')<;>(try simp[h])<;>(try omega)|refine Xg ?_|omega)
 rintro⟨i,cs⟩ ⟨i0,i1,i2,i3⟩
 dsimp only at i0 i1 i2 i3 ⊢
 have kl:max i 0=i:=by omega
 by_cases hi:i<6
 ·have w1:IntKind.i64.wrap (gt l i)=gt l i:=by
   have:=hw i.toNat (by omega)
   rwa [bZ i0]at this
  have w2:IntKind.i64.wrap (gt l (6+i))=gt l (6+i):=by
   have:=hw (6+i.toNat) (by omega)
   rwa [show((6+i.toNat:Nat):Int)=6+i by omega]at this
  have u1:0≤gt l i:=by
   have:=hu i.toNat (by omega)
   rw[bZ i0]at this
   exact this.1
  have u2:0≤gt l (6+i):=by
   have:=hu (6+i.toNat) (by omega)
   rw[show((6+i.toNat:Nat):Int)=6+i by omega]at this
   exact this.1
  have r1:=jk (a:=gt l i) (b:=g.size+1) u1
  have e1:=bY (gt l i) (show g.size+1≠0 by omega)
  have r2:=jk (a:=gt l (6+i)) (b:=g.kinds.length) u2
  have e2:=bY (gt l (6+i)) (show(g.kinds.length:Int)≠0 by omega)
  have e3:=bS (gt l (6+i)) (show(0:Int)<g.kinds.length by omega)
  have r3:=jk (a:=i) (b:=2) i0
  simp[hl,kl,hi,w1,w2]
  have fF:g.kinds≠[]:=by intro h;simp[h]at hk
  obtain⟨A,hA⟩:∃ A,eM (gt l i) (g.size+1)=A:=⟨_,rfl⟩
  obtain⟨B,hB⟩:∃ B,eM (gt l (6+i)) g.kinds.length=B:=⟨_,rfl⟩
  obtain⟨C,hC⟩:∃ B,eM i 2=B:=⟨_,rfl⟩
  rw[hA]at r1
  rw[hB]at r2
  rw[hC]at r3
  simp only[hA]
  (with_reducible repeat' first|refine Xk ?_<;>try simp[hl,kl,w1,w2,hA,hB,hC,fF]|refine Xs ?_ ?_<;>intro h<;>(try intro h')<;>(try simp[h,hl,kl,w1,w2,hA,hB,hC,fF])<;>(try omega)|refine Xg ?_|omega)
  ·(with_reducible repeat' first|refine Xk ?_<;>try simp[fF]|refine Xs ?_ ?_<;>intro h<;>(try intro h')<;>(try simp[h,fF])<;>(try omega)|refine Xg ?_|omega)
   refine LJ.e (i+1,pt cs A (1+2*B+C)) ?_
   dsimp only
   have hv:0≤1+2*B+C∧1+2*B+C≤2*g.kinds.length:=by omega
   refine⟨by omega,by omega,by omega,?_,?_⟩
   ·have:=fX (l:=cs) (n:=A) (v:=1+2*B+C) (by omega) (by omega)
    omega
   ·intro x hx
    rcases Mv hx with rfl|hx
    ·exact hv
    ·exact i3 x hx
  ·refine LJ.e (i+1,cs) ?_
   exact⟨by omega,by omega,by omega,i2,i3⟩
 simp[hi]
 have z0:mS g (List.replicate g.kinds.length 0):=⟨by simp,fun k hk jr=>by
  have e:gt (List.replicate g.kinds.length (0:Int)) k=0:=by
   simp at jr
   have:k.toNat<g.kinds.length:=by omega
   simp[gt,this]
  rw[e];omega⟩
 refine eE.un ?_
 refine ib.s (by simp;rfl) ?_
 refine ib.u ?_
 simp
 (with_reducible repeat' first|refine Xk ?_<;>try simp|refine Xs ?_ ?_<;>intro h<;>(try intro h')<;>(try simp[h])<;>(try omega)|refine Xg ?_|omega)
 refine eE.e ((0,List.replicate g.kinds.length 0):Int×List Int) (fun y=>[(2,.ptr 0 0 0),(3,.ptr 1 0 0),(4,.ptr 2 0 0),(5,.ptr 4 0 0),(8,.i 0),(9,.i y.1)]) (fun y=>[.row 41 0 g.cells,.row 30 0 (cl fU l),.row 44 0 [.emp,.emp,.emp,.i 0,.i 0],.row 3 0 (cl f1 cs),.row 44 0 [.et 3 0 1 0 g.size.toNat,.et 5 0 1 0 g.kinds.length,.emp,.i R,.i S],.row 3 0 (cl f1 y.2)]) (fun y=>0≤y.1∧y.1≤g.kinds.length∧mS g y.2) (fun y=>g.kinds.length-y.1.toNat) ?_ ?_
 ·simp
  exact z0
 rintro⟨i,h0⟩ ⟨i0,i1,ih⟩
 dsimp only at i0 i1 ih ⊢
 have kl:max i 0=i:=by omega
 have q7:=ih.len
 by_cases hi:i<g.kinds.length
 ·have iJ:i<2:=by omega
  have w1:IntKind.i64.wrap (gt l (12+i))=gt l (12+i):=by
   have:=hw (12+i.toNat) (by omega)
   rwa [show((12+i.toNat:Nat):Int)=12+i by omega]at this
  have u1:0≤gt l (12+i):=by
   have:=hu (12+i.toNat) (by omega)
   rw[show((12+i.toNat:Nat):Int)=12+i by omega]at this
   exact this.1
  have r1:=jk (a:=gt l (12+i)) (b:=3) u1
  by_cases jj:(gt g.kinds i).nh=true
  ·have gI:∀ v,(pt h0 i v).length=h0.length:=fun v=>fX i0 (by omega)
   have gX:i.toNat<g.kinds.length:=by omega
   simp[hl,kl,hi,iJ,jj,w1,gI,q7,gX]
   (with_reducible repeat' first|refine Xk ?_<;>try simp[hl,kl,hi,iJ,jj,w1,gI,q7,gX]|refine Xs ?_ ?_<;>intro h<;>(try intro h')<;>(try simp[h,hl,kl,hi,iJ,jj,w1,gI,q7,gX])<;>(try omega)|refine Xg ?_|omega)
   ·refine LJ.e (i+1,pt (pt h0 i (eM (gt l (12+i)) 3)) i 8) ?_
    refine⟨by dsimp only;omega,by dsimp only;omega,by dsimp only;omega,?_⟩
    exact(ih.set i0 (by omega) ⟨by omega,by omega,fun _=>jj⟩).set i0 (by rw[fX i0 (by omega)];omega) ⟨by omega,by omega,fun _=>jj⟩
   ·refine LJ.e (i+1,pt h0 i (eM (gt l (12+i)) 3)) ?_
    exact⟨by dsimp only;omega,by dsimp only;omega,by dsimp only;omega,ih.set i0 (by omega) ⟨by omega,by omega,fun _=>jj⟩⟩
  ·simp[hl,kl,hi,iJ,jj,w1]
   (with_reducible repeat' first|refine Xk ?_<;>try simp[hl,kl,hi,iJ,jj,w1]|refine Xs ?_ ?_<;>intro h<;>(try intro h')<;>(try simp[h,hl,kl,hi,iJ,jj,w1])<;>(try omega)|refine Xg ?_|omega)
   refine LJ.e (i+1,h0) ?_
   exact⟨by dsimp only;omega,by dsimp only;omega,by dsimp only;omega,ih⟩
 simp[hi]
 (with_reducible repeat' first|refine Xk ?_<;>try simp[hi]|refine Xs ?_ ?_<;>intro h<;>(try intro h')<;>(try simp[h,hi])<;>(try omega)|refine Xg ?_|omega)
 clear hi kl i0 i1 q7
 rename mS g h0=>MH
 refine ib.s (by simp;rfl) ?_
 refine ib.u ?_
 simp
 (with_reducible repeat' first|refine Xk ?_<;>try simp|refine Xs ?_ ?_<;>intro h<;>(try intro h')<;>(try simp[h])<;>(try omega)|refine Xg ?_|omega)
 refine eE.e ((0,List.replicate g.kinds.length 0):Int×List Int) (fun y=>[(2,.ptr 0 0 0),(3,.ptr 1 0 0),(4,.ptr 2 0 0),(5,.ptr 4 0 0),(8,.i 1),(9,.i y.1)]) (fun y=>[.row 41 0 g.cells,.row 30 0 (cl fU l),.row 44 0 [.emp,.emp,.emp,.i 0,.i 0],.row 3 0 (cl f1 cs),.row 44 0 [.et 3 0 1 0 g.size.toNat,.et 5 0 1 0 g.kinds.length,.et 6 0 1 0 g.kinds.length,.i R,.i S],.row 3 0 (cl f1 h0),.row 3 0 (cl f1 y.2)]) (fun y=>0≤y.1∧y.1≤g.kinds.length∧mS g y.2) (fun y=>g.kinds.length-y.1.toNat) ?_ ?_
 ·simp
  exact z0
 rintro⟨i,h1⟩ ⟨i0,i1,ih⟩
 dsimp only at i0 i1 ih ⊢
 have kl:max (2+i) 0=(2+i):=by omega
 have q7:=ih.len
 by_cases hi:i<g.kinds.length
 ·have iJ:i<2:=by omega
  have w1:IntKind.i64.wrap (gt l (12+(2+i)))=gt l (12+(2+i)):=by
   have:=hw (12+(2+i).toNat) (by omega)
   rwa [show((12+(2+i).toNat:Nat):Int)=12+(2+i)by omega]at this
  have u1:0≤gt l (12+(2+i)):=by
   have:=hu (12+(2+i).toNat) (by omega)
   rw[show((12+(2+i).toNat:Nat):Int)=12+(2+i)by omega]at this
   exact this.1
  have r1:=jk (a:=gt l (12+(2+i))) (b:=3) u1
  by_cases jj:(gt g.kinds i).nh=true
  ·have gI:∀ v,(pt h1 i v).length=h1.length:=fun v=>fX i0 (by omega)
   have gX:i.toNat<g.kinds.length:=by omega
   simp[hl,kl,hi,iJ,jj,w1,gI,q7,gX]
   (with_reducible repeat' first|refine Xk ?_<;>try simp[hl,kl,hi,iJ,jj,w1,gI,q7,gX]|refine Xs ?_ ?_<;>intro h<;>(try intro h')<;>(try simp[h,hl,kl,hi,iJ,jj,w1,gI,q7,gX])<;>(try omega)|refine Xg ?_|omega)
   ·refine LJ.e (i+1,pt (pt h1 i (eM (gt l (12+(2+i))) 3)) i 8) ?_
    refine⟨by dsimp only;omega,by dsimp only;omega,by dsimp only;omega,?_⟩
    exact(ih.set i0 (by omega) ⟨by omega,by omega,fun _=>jj⟩).set i0 (by rw[fX i0 (by omega)];omega) ⟨by omega,by omega,fun _=>jj⟩
   ·refine LJ.e (i+1,pt h1 i (eM (gt l (12+(2+i))) 3)) ?_
    exact⟨by dsimp only;omega,by dsimp only;omega,by dsimp only;omega,ih.set i0 (by omega) ⟨by omega,by omega,fun _=>jj⟩⟩
  ·simp[hl,kl,hi,iJ,jj,w1]
   (with_reducible repeat' first|refine Xk ?_<;>try simp[hl,kl,hi,iJ,jj,w1]|refine Xs ?_ ?_<;>intro h<;>(try intro h')<;>(try simp[h,hl,kl,hi,iJ,jj,w1])<;>(try omega)|refine Xg ?_|omega)
   refine LJ.e (i+1,h1) ?_
   exact⟨by dsimp only;omega,by dsimp only;omega,by dsimp only;omega,ih⟩
 simp[hi]
 (with_reducible repeat' first|refine Xk ?_<;>try simp[hi]|refine Xs ?_ ?_<;>intro h<;>(try intro h')<;>(try simp[h,hi])<;>(try omega)|refine Xg ?_|omega)
 clear hi kl i0 i1 q7
 rename mS g h1=>MI
 refine ib.s (by simp;rfl) ?_
 refine ib.u ?_
 simp
 (with_reducible repeat' first|refine Xk ?_<;>try simp|refine Xs ?_ ?_<;>intro h<;>(try intro h')<;>(try simp[h])<;>(try omega)|refine Xg ?_|omega)
 exact Ey.i ⟨cs,h0,h1,R,S⟩ (by simp[i2,MH.len,MI.len,dP,Pos.cells]) rfl ⟨by simp only;omega,MH,MI,hR,hS,i3⟩
end Go.Proofs.YtnaefnajkaohgaaGreatDoor
namespace Go.AL
open Go
@[simp] theorem aiW(ρ:Nat→Option Nat)(H:U)(k:Nat)(f:Fn)(a b:List D):eB ρ H (k+1) (.fn f a b) = .fn f (a.map (eB ρ H k)) (b.map (eB ρ H k)):=by
 by_cases h:closed (.fn f a b)=true
 ·have h':=h
  simp only[E9,ah]at h'
  rw[lQ h,ur h'.1,ur h'.2]
 ·rw[eB,if_neg h]
@[simp] theorem aiX(ρ:Nat→Option Nat)(H:U)(k:Nat)(cs:List D):eB ρ H (k+1) (.eF cs) = .eF (cs.map (eB ρ H k)):=by
 by_cases h:closed (.eF cs)=true
 ·rw[lQ h,ur (by simpa using h)]
 ·rw[eB,if_neg h]
theorem JH(l:List Int):cl f1 l=l.map fun n=>D.i n:=by
 rw[lF]
 induction l with
 | nil=>rfl
 | cons a r ih=>simp[← ih]
theorem Pb{ρ:Nat→Option Nat}{H:U}{k n:Nat}{t:TypeId}{cs:List D}(l:List Int)(h:cs=l.map fun n=>D.i n)(hn:n=l.length):ln ρ H (k+1) 1 0 n (some (t,cs))=dI l:=by
 rw[h,← JH,qU hn]
 rfl
@[simp] theorem ajz(a b:ByteArray):wE .eql a b=some (.b (decide (a=b))):=by
 have:(a.data.toList == b.data.toList)=decide (a=b):=by
  rw[Bool.eq_iff_iff,beq_iff_eq,decide_eq_true_iff]
  constructor
  ·intro h;cases a;cases b;congr 1;exact dK.1 h
  ·rintro rfl;rfl
 show some (D.val (.bool _))=_
 rw[this]
@[simp] theorem adg(t:TypeId)(s:ByteArray)(n:Nat):mT t (.val (.string s)) n=some (.ptr n 0 0,.new (.row t 0 [.val (.string s)])):=rfl
@[simp] theorem adb(t:TypeId)(m:Int)(n:Nat):mT t (.i m) n=some (.ptr n 0 0,.new (.row t 0 [.i m])):=rfl
@[simp] theorem aea(l:List (List eG)):closed (dN 1 fP l)=true:=tj (fun a=>by simp[eT]) l
def zg(rf:Nat)(st:nP)(x:Option Ob)(P:Env→Prop):Prop:=∃ env,x=some (.fy rf env st)∧P env
@[simp] theorem aia{rf:Nat}{st:nP}{env:Env}{P:Env→Prop}:zg rf st (some (.fy rf env st)) P=P env:=propext ⟨fun⟨_,h,k⟩=>by cases h;exact k,fun k=>⟨_,rfl,k⟩⟩
section
variable{T:fE}{v rf:Nat}{b:IR}{dst:Option Nat}{s s1:St}{K:St→Prop}
@[simp] theorem aiz:Nl T v rf b dst s K (.norm s1)=zg rf .ready s1.H[v]? fun iS=>XC T b { s1 with H:=s1.H.set v (.fy rf iS .busy) } (uH v rf dst s K):=rfl
@[simp] theorem aiB:uH v rf dst s K (.norm s1)=zg rf .busy s1.H[v]? fun iH=>K { s with env:=put s.env dst (.b true),H:=s1.H.set v (.fy rf iH .ready) }:=rfl
@[simp] theorem aiA{id:Nat}:uH v rf dst s K (.exit id s1)=zg rf .busy s1.H[v]? fun iH=>K { s with env:=put s.env dst (.b false),H:=s1.H.set v (.fy rf iH (.r9 id)) }:=rfl
@[simp] theorem aiC:uH v rf dst s K (.ret s1)=zg rf .busy s1.H[v]? fun iH=>K { s with env:=put s.env dst (.b false),H:=s1.H.set v (.fy rf iH .tm) }:=rfl
@[simp] theorem aiH{l:List D}{e:Env}:oz [] l e=e:=by cases l<;>rfl
@[simp] theorem aiG{k:Nat}{d:D}{ks:List Nat}{l:List D}{e:Env}:oz (k::ks) (d::l) e=oz ks l ((k,d)::e):=rfl
@[simp] theorem ah8{s:St}:uF s .ready=some (.norm s):=rfl
@[simp] theorem ah7{s:St}{id:Nat}:uF s (.r9 id)=some (.exit id s):=rfl
@[simp] theorem ah9{s:St}:uF s .tm=some (.ret s):=rfl
end
@[simp] theorem ahl(n:Nat):lM n .jv = []:=rfl
@[simp] theorem aho(n rf:Nat)(e:Env)(st:nP):lM n (.fy rf e st) = []:=rfl
theorem eS.nr{T:fE}{f:FuncId}{args mB:List D}{dst:Option Nat}{s:St}{K:St→Prop}{fn:ey}{d:D}{Hn:U}(hf:T.fn f=some fn)(hp:fn.full=false)(h:Wf T f mB [] fun d' H'=>d'=d∧H'=Hn)
  (hs:args.map (eB (fun _=>none) s.H 40)=mB) (hr:(lN d&&Hn.all lT)=true) (Dn:(jP d&&Hn.all kO)=true) (k:K { s with env:=put s.env dst (ix s.H.length d),H:=s.H++Hn }):eS T f args dst s K .mk:=by
 refine eS.is hf hp (K0:=fun d' H'=>d'=d∧H'=Hn) (by rw[hs];exact h) ?_
 rintro d' B9 ⟨rfl,rfl⟩
 refine⟨_,?_,k⟩
 unfold after
 by_cases hc:eT args=true
 ·rw[if_pos hc,if_pos Dn]
 ·rw[if_neg hc,if_pos hr]
@[simp] theorem aht(v g sz off n:Nat):lN (.et v g sz off n)=true:=rfl
@[simp] theorem aeQ(t g:Nat)(cs:List D):lT (.row t g cs)=p8 cs:=rfl
@[simp] theorem aeP(l:List Int):p8 (cl f1 l)=true:=by
 rw[JH]
 induction l with
 | nil=>rfl
 | cons a r ih=>simpa[p8,flat]using ih
end Go.AL
namespace Go.Proofs.YtnaefnajkaohgaaGreatDoor
open Go Go.AL Classical
set_option maxRecDepth 10000
set_option maxHeartbeats 4000000
theorem f133(g:ew)(hg:eU g)(n:Int)(hn:0≤n∧n≤2*g.kinds.length):Wf T 133 [dG g,.i n] [] (Is (.b true)):=by
 have hk:=hg.kinds
 refine Yg Aj ?_
 simp[Aj]
 (with_reducible repeat' first|refine Xk ?_<;>try simp|refine Xs ?_ ?_<;>intro h<;>(try intro h')<;>(try simp[h])<;>(try omega)|refine Xg ?_|omega)
theorem f134(g:ew)(hg:eU g)(n:Int)(hn:0≤n∧n≤2*g.kinds.length):Wf T 134 [.i n,.eF [.fn (.func 133) [dG g] []]] [] (Is (.b false)):=by
 refine Yg Ak ?_
 simp[Ak]
 refine Yc (f133 g hg n hn) ?_
 simp
theorem f178(g:ew)(hg:eU g)(l:List Int)(hl:∀ n∈l,0≤n∧n≤2*g.kinds.length)(h9:l.length≤9):Wf T 178 [dI l,.fn (.func 134) [] [.eF [.fn (.func 133) [dG g] []]]] [] (Is (.i (-1))):=by
 refine Yg uX ?_
 simp[uX]
 refine eE.e (0:Int) (fun y=>[(0,dI l),(1,.fn (.func 134) [] [.eF [.fn (.func 133) [dG g] []]]),(7,.i l.length),(8,.i y)]) (fun y=>[]) (fun y=>0≤y∧y≤l.length) (fun y=>(l.length-y).toNat) ?_ ?_
 ·simp
 rintro i ⟨i0,i1⟩
 dsimp only at i0 i1 ⊢
 by_cases hi:i<l.length
 ·simp[hi]
  (with_reducible repeat' first|refine Xk ?_<;>try simp|refine Xs ?_ ?_<;>intro h<;>(try intro h')<;>(try simp[h])<;>(try omega)|refine Xg ?_|omega)
  refine Yc (f134 g hg (gt l i) (hl _ (eI i0 hi))) ?_
  simp
  (with_reducible repeat' first|refine Xk ?_<;>try simp|refine Xs ?_ ?_<;>intro h<;>(try intro h')<;>(try simp[h])<;>(try omega)|refine Xg ?_|omega)
  refine LJ.e (i+1) ?_
  exact⟨by omega,by omega,by omega⟩
 ·simp[hi]
theorem f135(g:ew)(hg:eU g)(l:List Int)(hl:∀ n∈l,0≤n∧n≤2*g.kinds.length)(h9:l.length≤9):Wf T 135 [dI l,.fn (.func 134) [] [.eF [.fn (.func 133) [dG g] []]]] [] (Is (.b false)):=by
 refine Yg uW ?_
 simp[uW]
 refine Yc (f178 g hg l hl h9) ?_
 simp
theorem f136(g:ew)(hg:eU g)(l:List Int)(hl:mS g l):Wf T 136 [dG g,dI l] [] (Is (.b true)):=by
 have hk:=hg.kinds
 have hn:=hl.len
 refine Yg Am ?_
 simp[Am]
 (with_reducible repeat' first|refine Xk ?_<;>try simp[hn]|refine Xs ?_ ?_<;>intro h<;>(try intro h')<;>(try simp[h,hn])<;>(try omega)|refine Xg ?_|omega)
 refine eE.e (0:Int) (fun y=>[(2,.ptr 0 0 0),(14,dI l),(15,.i g.kinds.length),(16,.i y)]) (fun y=>[.row 214 0 g.cells]) (fun y=>0≤y∧y≤l.length) (fun y=>(l.length-y).toNat) ?_ ?_
 ·simp
 rintro i ⟨i0,i1⟩
 dsimp only at i0 i1 ⊢
 by_cases hi:i<l.length
 ·have ha:=hl.at_ i i0 hi
  have Gg:i<g.kinds.length:=by omega
  by_cases hp:0<gt l i
  ·have sA:=ha.2.2 hp
   simp[hi]
   (with_reducible repeat' first|refine Xk ?_<;>try simp[sA,hp]|refine Xs ?_ ?_<;>intro h<;>(try intro h')<;>(try simp[h,sA,hp])<;>(try omega)|refine Xg ?_|omega)
   refine LJ.e (i+1) ?_
   exact⟨by omega,by omega,by omega⟩
  ·simp[hi]
   (with_reducible repeat' first|refine Xk ?_<;>try simp[hp]|refine Xs ?_ ?_<;>intro h<;>(try intro h')<;>(try simp[h,hp])<;>(try omega)|refine Xg ?_|omega)
   refine LJ.e (i+1) ?_
   exact⟨by omega,by omega,by omega⟩
 ·simp[show ¬ i<g.kinds.length by omega]
theorem f97(g:ew)(hg:eU g)(p:Pos)(hp:fj g p):Wf T 97 [dG g,dP p] [] (Is (.b true)):=by
 have hk:=hg.kinds
 have hr:=hg.eQ
 have Dn:=hp.eQ
 have hs:=hp.side
 have hz:=hp.size
 have hb:=hg.gF.size
 have h4:=H8 hr.1 (by omega)
 refine Yg B6 ?_
 simp[B6,h4,hz]
 refine gi.r rfl rfl (f135 g hg p.cs hp.cs (by omega)) (by simp) (by simp[flat]) (by simp) ?_
 simp
 refine Yt (f136 g hg p.h0 hp.h0) ?_
 simp
 refine Yt (f136 g hg p.h1 hp.h1) ?_
 simp
 (with_reducible repeat' first|refine Xk ?_<;>try simp[h4]|refine Xs ?_ ?_<;>intro h<;>(try intro h')<;>(try simp[h,h4])<;>(try omega)|refine Xg ?_|omega)
 ·simp[*]
 ·have:p.side=1:=by omega
  simp[*]
set_option maxRecDepth 10000
set_option maxHeartbeats 4000000
theorem f177(n:Int):Wf T 177 [.i n] [] (Is (.b false)):=by
 refine Yg AJ ?_
 simp[AJ]
theorem f131(a b:Int):Wf T 131 [.i a,.i b] [] (Is (.i (iB a b))):=by
 refine Yg Ah ?_
 simp[Ah]
 refine Yc (f177 a) ?_
 simp
 refine Yc (f177 b) ?_
 simp
 (with_reducible repeat' first|refine Xk ?_<;>try simp|refine Xs ?_ ?_<;>intro h<;>(try intro h')<;>(try simp[h])<;>(try omega)|refine Xg ?_|omega)
 all_goals
  unfold iB
  (repeat' split)<;>(first|rfl|(exfalso;omega))
theorem f130(a b:List Int)(ha:a.length<2 ^ 40)(hb:b.length<2 ^ 40):Wf T 130 [dI a,dI b] [] (Is (.i (iy a b))):=by
 refine Yg Ag ?_
 simp[Ag]
 refine eE.e (0:Int) (fun i=>[(0,dI a),(1,dI b),(9,dI a),(10,.i a.length),(11,.i i)]) (fun i=>[]) (fun i=>0≤i∧i≤a.length∧i≤b.length∧a.take i.toNat=b.take i.toNat) (fun i=>a.length-i.toNat) ?_ ?_
 ·simp
 rintro i ⟨h0,h1,C4,h2⟩
 have e:=Mk h2 (by omega) (by omega)
 by_cases hi:i<a.length
 ·by_cases hj:i<b.length
  ·simp[hi,hj]
   (with_reducible repeat' first|refine Xk ?_<;>try simp|refine Xs ?_ ?_<;>intro h<;>(try intro h')<;>(try simp[h])<;>(try omega)|refine Xg ?_|omega)
   refine Yc (f131 (gt a i) (gt b i)) ?_
   simp
   by_cases hz:iB (gt a i) (gt b i)=0
   ·simp[hz]
    (with_reducible repeat' first|refine Xk ?_<;>try simp|refine Xs ?_ ?_<;>intro h<;>(try intro h')<;>(try simp[h])<;>(try omega)|refine Xg ?_|omega)
    refine LJ.e (i+1) ?_
    refine⟨by omega,by omega,by omega,by omega,?_⟩
    rw[gg h0 hi,gg h0 hj,h2,ru.1 hz]
   ·simp[hz]
    rw[e,kI h0 hi,kI h0 hj,iy,if_neg (fun h=>hz (ru.2 h))]
  ·simp[hi,hj]
   (with_reducible repeat' first|refine Xk ?_<;>try simp|refine Xs ?_ ?_<;>intro h<;>(try intro h')<;>(try simp[h])<;>(try omega)|refine Xg ?_|omega)
   have h5:iB ((a.drop i.toNat).length) ((b.drop i.toNat).length)=1:=by
    simp only[bk,iB]
    rw[if_neg (by omega),if_pos (by omega)]
   rw[e,Ha (by simp only[bk];omega),h5]
 ·simp[hi]
  (with_reducible repeat' first|refine Xk ?_<;>try simp|refine Xs ?_ ?_<;>intro h<;>(try intro h')<;>(try simp[h])<;>(try omega)|refine Xg ?_|omega)
  all_goals
   rw[e,Ha (by simp only[bk];omega)]
   simp only[bk,iB]
   (repeat' split)<;>omega
theorem f129(l:List Int)(hl:l.length<2 ^ 40):Wf T 129 [dI l] [] (Is (.i (jW l))):=by
 refine Yg Ae ?_
 simp[Ae]
 refine eE.e (0:Int) (fun i=>[(3,.i 0),(6,dI l),(7,.i l.length),(8,.i i)]) (fun i=>[]) (fun i=>0≤i∧i≤l.length∧jW l=jW (l.drop i.toNat)) (fun i=>l.length-i.toNat) ?_ ?_
 ·simp
 rintro i ⟨h0,h1,h2⟩
 by_cases hi:i<l.length
 ·rw[kI h0 hi]at h2
  by_cases hz:gt l i=0
  ·simp[hi,hz]
   (with_reducible repeat' first|refine Xk ?_<;>try simp|refine Xs ?_ ?_<;>intro h<;>(try intro h')<;>(try simp[h])<;>(try omega)|refine Xg ?_|omega)
   refine LJ.e (i+1) ?_
   refine⟨by omega,by omega,by omega,?_⟩
   rw[h2]
   simp only[jW,hz]
   rw[if_neg (by simp),show(i+1).toNat=i.toNat+1 by omega]
  ·simp[hi,hz]
   (with_reducible repeat' first|refine Xk ?_<;>try simp|refine Xs ?_ ?_<;>intro h<;>(try intro h')<;>(try simp[h])<;>(try omega)|refine Xg ?_|omega)
   rw[h2]
   simp[jW,hz]
 ·simp[hi]
  rw[h2,c8 (by omega)]
  rfl
theorem f88(p q:Pos)(hp:Small p)(hq:Small q):Wf T 88 [dP p,dP q] [] (Is (.i (fD p q))):=by
 refine Yg BY ?_
 simp[BY]
 refine Yt (f130 _ _ hp.1 hq.1) ?_
 simp
 refine Yt (f130 _ _ hp.2.1 hq.2.1) ?_
 simp
 refine Yt (f130 _ _ hp.2.2 hq.2.2) ?_
 simp
 refine Yt (f131 _ _) ?_
 simp
 refine Yt (f131 _ _) ?_
 simp
 refine gi.r rfl rfl (f129 [iy p.cs q.cs,iy p.h0 q.h0,iy p.h1 q.h1,iB p.eQ q.eQ,iB p.side q.side] (by simp)) (by simp;exact Pb _ rfl rfl) (by simp[flat]) (by simp) ?_
 simp
 rfl
theorem f100(l:List Pos)(hl:l.length<2 ^ 40)(hs:∀ p∈l,Small p)(sG:iE l):Wf T 100 [fe l] [] (Is (.b true)):=by
 refine Yg zW ?_
 simp[zW]
 (with_reducible repeat' first|refine Xk ?_<;>try simp|refine Xs ?_ ?_<;>intro h<;>(try intro h')<;>(try simp[h])<;>(try omega)|refine Xg ?_|omega)
 refine eE.e (0:Int) (fun i=>[(0,fe l),(6,.i (l.length-1)),(7,.i i)]) (fun i=>[]) (fun i=>0≤i) (fun i=>l.length-i.toNat) ?_ ?_
 ·simp
 rintro i h0
 by_cases hi:i<l.length-1
 ·simp[hi]
  (with_reducible repeat' first|refine Xk ?_<;>try simp|refine Xs ?_ ?_<;>intro h<;>(try intro h')<;>(try simp[h])<;>(try omega)|refine Xg ?_|omega)
  refine Yt (f88 _ _ (hs _ (eI h0 (by omega))) (hs _ (eI (n:=i+1) (by omega) (by omega)))) ?_
  simp
  have:=sG (i+1) (by omega) (by omega)
  rw[cO]at this
  simp[show ¬ 0≤fD (gt l i) (gt l (i+1))by omega]
  (with_reducible repeat' first|refine Xk ?_<;>try simp|refine Xs ?_ ?_<;>intro h<;>(try intro h')<;>(try simp[h])<;>(try omega)|refine Xg ?_|omega)
  refine LJ.e (i+1) ?_
  exact⟨by omega,by omega⟩
 ·simp[hi]
theorem f96(g:ew)(hg:eU g)(p:Pos)(hp:fj g p):Wf T 96 [dP p,.eF g.cells] [] (Is (.b false)):=by
 refine Yg B5 ?_
 simp[B5]
 refine Yc (f97 g hg p hp) ?_
 simp
theorem f147(g:ew)(hg:eU g)(l:List Pos)(hl:∀ p∈l,fj g p)(h9:l.length<2 ^ 40):Wf T 147 [fe l,.fn (.func 96) [] [.eF g.cells]] [] (Is (.i (-1))):=by
 refine Yg Ay ?_
 simp[Ay]
 refine eE.e (0:Int) (fun y=>[(0,fe l),(1,.fn (.func 96) [] [.eF g.cells]),(7,.i l.length),(8,.i y)]) (fun y=>[]) (fun y=>0≤y∧y≤l.length) (fun y=>(l.length-y).toNat) ?_ ?_
 ·simp
 rintro i ⟨i0,i1⟩
 by_cases hi:i<l.length
 ·simp[hi]
  (with_reducible repeat' first|refine Xk ?_<;>try simp|refine Xs ?_ ?_<;>intro h<;>(try intro h')<;>(try simp[h])<;>(try omega)|refine Xg ?_|omega)
  refine Yc (f96 g hg (gt l i) (hl _ (eI i0 hi))) ?_
  simp
  (with_reducible repeat' first|refine Xk ?_<;>try simp|refine Xs ?_ ?_<;>intro h<;>(try intro h')<;>(try simp[h])<;>(try omega)|refine Xg ?_|omega)
  refine LJ.e (i+1) ?_
  exact⟨by omega,by omega,by omega⟩
 ·simp[hi]
theorem f99(g:ew)(hg:eU g)(l:List Pos)(hl:∀ p∈l,fj g p)(h9:l.length<2 ^ 40):Wf T 99 [fe l,.fn (.func 96) [] [.eF g.cells]] [] (Is (.b false)):=by
 refine Yg B8 ?_
 simp[B8]
 refine Yc (f147 g hg l hl h9) ?_
 simp
