/- Part 19 of DisputeLocal. -/
import Derived.Test.YtmehofoficaelaaGreatDoorL18
set_option linter.all false
namespace Go.Proofs.YtmehofoficaelaaGreatDoor
open Go Go.AL Classical
set_option maxRecDepth 10000
set_option maxHeartbeats 1000000
@[simp] theorem akP(n:Int)(nx:List (List Int))(tn:List Int):closed (bD n nx tn)=true:=by simp[bD]
theorem f104(w xE c:Int)(hw:0≤w∧w<256)(hh:0≤xE∧xE<256)(hc:0≤c∧c<256):Wf T 159 [.val (.int .u8 w),.val (.int .u8 xE),.val (.int .u8 c)] [] (Ey (fun x:Int×List (List Int)×List Int=>bD x.1 x.2.1 x.2.2) fun x=>mY (ya x.1 x.2.1 x.2.2)):=by
 have w1:=jT (a:=w) (b:=3) hw.1
 have h1:=jT (a:=xE) (b:=3) hh.1
 have w2:IntKind.i64.wrap (fq w 3)=fq w 3:=oO jG
 have h2:IntKind.i64.wrap (fq xE 3)=fq xE 3:=oO jG
 have c2:IntKind.i64.wrap c=c:=oO jG
 refine Yg DN ?_
 simp[DN,w2,h2]
 (with_reducible repeat' first|refine Xk ?_<;>try simp|refine Xs ?_ ?_<;>intro h<;>(try intro h')<;>(try simp[h])<;>try omega|refine Xg ?_|omega)
 obtain⟨n,nx,tn,hg,hb⟩:=f149 (1+fq w 3) (1+fq xE 3) (by omega) (by omega)
 have hn:1≤n∧n≤9:=hb.size
 refine fG.c rfl rfl hg (by simp) (by simp[bD]) ?_
 simp[bD,c2]
 (with_reducible repeat' first|refine Xk ?_<;>try simp|refine Xs ?_ ?_<;>intro h<;>(try intro h')<;>(try simp[h])<;>try omega|refine Xg ?_|omega)
 ·rw[c2]
  have hr:=jT (a:=c) (b:=n) hc.1
  have s9:=bW c (show n≠0 by omega)
  have B4:=bS c (show 0<n by omega)
  refine Yv (f150 n nx tn hb (fq c n) (by omega)) fun x hx=>?_
  simp
  simp[bD]
  exact Ey.i (n,x,tn) rfl rfl hx
 ·exact Ey.i (n,nx,tn) rfl rfl hb
theorem kS.s{T:gP}{n:Nat}{live:List Nat}{a:IR}{s s':St}{K:iv}(hs:s=s')(h:kS T n live a s' K .mk):kS T n live a s K .mk:=by subst hs;exact h
theorem fh.s{T:gP}{live:List Nat}{a:IR}{s s':St}{K:iv}(hs:s=s')(h:fh T live a s' K .mk):fh T live a s K .mk:=by subst hs;exact h
def OQ(l:List Int):cl fU l=l.map fun n=>D.val (.int .u8 n):=by
 rw[nI]
 induction l with
 | nil=>rfl
 | cons a r ih=>simp[← ih]
@[simp] theorem aar{l:List Int}{k:Nat}{P:D→Prop}:oA (cl fU l)[k]? P .mk=(k<l.length∧P (.val (.int .u8 (gt l k)))):=by
 rw[OQ]
 by_cases h:k<l.length
 ·simp[h,gt]
 ·simp[h]
@[simp] theorem ajy{l:List Int}{k:Nat}(h:k<(cl fU l).length):(cl fU l)[k] = .val (.int .u8 (gt l k)):=by
 have h':k<l.length:=by simpa using h
 simp[OQ,gt,h']
def f59(g:eY)(hg:gh g)(l:List Int)(hl:l.length=18)(h:∀ n∈l,0≤n∧n<256) :
  Wf T 100 [dG g,.agg (cl fU l)] [] (Ey dP (gG g)):=by
 have hb:=hg.iY.size
 have hk:=hg.kinds
 have hr:=hg.fH
 have h4:=MX hr.1 (by omega)
 have h5:=Af hr.1 (by omega)
 have h6:(0:Int)<2 ^ g.fH.toNat:=Int.pow_pos (by decide)
 have hu:∀ k:Nat,k<18→0≤gt l k∧gt l k<256:=fun k hk=>h _ (ft (by omega) (by omega))
 have hw:∀ k:Nat,k<18→IntKind.i64.wrap (gt l k)=gt l k:=fun k hk=>by
  have:=hu k hk
  exact oO jG
 have HT:=hw 16 (by omega)
 have YK:=hw 17 (by omega)
 have Q6:=hu 16 (by omega)
 have Q7:=hu 17 (by omega)
 simp at HT YK Q6 Q7
 have r16:=jT (a:=gt l 16) (b:=2 ^ g.fH.toNat) Q6.1
 have m16:=bW (gt l 16) (show(2:Int) ^ g.fH.toNat≠0 by omega)
 have n16:=bS (gt l 16) h6
 have r17:=jT (a:=gt l 17) (b:=2) Q7.1
 have Nb:IntKind.i64.wrap (fq (gt l 17) 2)=fq (gt l 17) 2:=oO jG
 have hR:0≤fq (gt l 16) (2 ^ g.fH.toNat)∧fq (gt l 16) (2 ^ g.fH.toNat)<2 ^ g.fH.toNat:=by omega
 have hS:0≤fq (gt l 17) 2∧fq (gt l 17) 2≤1:=by omega
 refine Yg FT ?_
 simp[FT,h4,hl,HT,Nb]
 generalize fq (gt l 16) (2 ^ g.fH.toNat)=R at *
 generalize fq (gt l 17) 2=S at *
 (with_reducible repeat' first|refine Xk ?_<;>try simp[h4,hl,HT,Nb]|refine Xs ?_ ?_<;>intro h<;>(try intro h')<;>(try simp[h,h4,hl,HT,Nb])<;>try omega|refine Xg ?_|omega)
 refine fh.e ((0,List.replicate g.size.toNat 0):Int×List Int) (fun y=>[(2,.ptr 0 0 0),(3,.ptr 1 0 0),(4,.ptr 2 0 0),(5,.ptr 4 0 0),(6,.i y.1)]) (fun y=>[.row 43 0 g.cells,.row 30 0 (cl fU l),.row 46 0 [.eU,.eU,.eU,.i 0,.i 0],.row 3 0 (cl f1 y.2),.row 46 0 [.eX 3 0 1 0 g.size.toNat,.eU,.eU,.i R,.i S]]) (fun y=>0≤y.1∧y.1≤6∧y.2.length=g.size.toNat∧∀ x∈y.2,0≤x∧x≤2*g.kinds.length) (fun y=>6-y.1.toNat) ?_ ?_
 ·simp
  (with_reducible repeat' first|refine Xk ?_<;>try simp|refine Xs ?_ ?_<;>intro h<;>(try intro h')<;>(try simp[h])<;>try omega|refine Xg ?_|omega)
 rintro⟨i,cs⟩ ⟨i0,i1,i2,i3⟩
 dsimp only at i0 i1 i2 i3 ⊢
 have mr:max i 0=i:=by omega
 by_cases hi:i<6
 ·have w1:IntKind.i64.wrap (gt l i)=gt l i:=by
   have:=hw i.toNat (by omega)
   rwa [bN i0]at this
  have w2:IntKind.i64.wrap (gt l (6+i))=gt l (6+i):=by
   have:=hw (6+i.toNat) (by omega)
   rwa [show((6+i.toNat:Nat):Int)=6+i by omega]at this
  have u1:0≤gt l i:=by
   have:=hu i.toNat (by omega)
   rw[bN i0]at this
   exact this.1
  have u2:0≤gt l (6+i):=by
   have:=hu (6+i.toNat) (by omega)
   rw[show((6+i.toNat:Nat):Int)=6+i by omega]at this
   exact this.1
  have r1:=jT (a:=gt l i) (b:=g.size+1) u1
  have e1:=bW (gt l i) (show g.size+1≠0 by omega)
  have r2:=jT (a:=gt l (6+i)) (b:=g.kinds.length) u2
  have e2:=bW (gt l (6+i)) (show(g.kinds.length:Int)≠0 by omega)
  have e3:=bS (gt l (6+i)) (show(0:Int)<g.kinds.length by omega)
  have r3:=jT (a:=i) (b:=2) i0
  simp[hl,mr,hi,w1,w2]
  have gE:g.kinds≠[]:=by intro h;simp[h]at hk
  obtain⟨A,hA⟩:∃ A,fq (gt l i) (g.size+1)=A:=⟨_,rfl⟩
  obtain⟨B,hB⟩:∃ B,fq (gt l (6+i)) g.kinds.length=B:=⟨_,rfl⟩
  obtain⟨C,hC⟩:∃ B,fq i 2=B:=⟨_,rfl⟩
  rw[hA]at r1
  rw[hB]at r2
  rw[hC]at r3
  simp only[hA]
  (with_reducible repeat' first|refine Xk ?_<;>try simp[hl,mr,w1,w2,hA,hB,hC,gE]|refine Xs ?_ ?_<;>intro h<;>(try intro h')<;>(try simp[h,hl,mr,w1,w2,hA,hB,hC,gE])<;>try omega|refine Xg ?_|omega)
  ·(with_reducible repeat' first|refine Xk ?_<;>try simp[gE]|refine Xs ?_ ?_<;>intro h<;>(try intro h')<;>(try simp[h,gE])<;>try omega|refine Xg ?_|omega)
   refine LJ.e (i+1,pt cs A (1+2*B+C)) ?_
   dsimp only
   have hv:0≤1+2*B+C∧1+2*B+C≤2*g.kinds.length:=by omega
   refine fQ ⟨?_,?_⟩
   ·have:=il (l:=cs) (n:=A) (v:=1+2*B+C) (by omega) (by omega)
    omega
   ·intro x hx
    rcases RZ hx with rfl|hx
    ·exact hv
    ·exact i3 x hx
  ·refine LJ.e (i+1,cs) ?_
   exact fQ ⟨i2,i3⟩
 simp[hi]
 have z0:pD g (List.replicate g.kinds.length 0):=⟨by simp,fun k hk kL=>by
  have e:gt (List.replicate g.kinds.length (0:Int)) k=0:=by
   simp at kL
   have:k.toNat<g.kinds.length:=by omega
   simp[gt,this]
  rw[e];omega⟩
 refine fh.un ?_
 refine kS.s (by simp;rfl) ?_
 refine kS.u ?_
 simp
 (with_reducible repeat' first|refine Xk ?_<;>try simp|refine Xs ?_ ?_<;>intro h<;>(try intro h')<;>(try simp[h])<;>try omega|refine Xg ?_|omega)
 refine fh.e ((0,List.replicate g.kinds.length 0):Int×List Int) (fun y=>[(2,.ptr 0 0 0),(3,.ptr 1 0 0),(4,.ptr 2 0 0),(5,.ptr 4 0 0),(8,.i 0),(9,.i y.1)]) (fun y=>[.row 43 0 g.cells,.row 30 0 (cl fU l),.row 46 0 [.eU,.eU,.eU,.i 0,.i 0],.row 3 0 (cl f1 cs),.row 46 0 [.eX 3 0 1 0 g.size.toNat,.eX 5 0 1 0 g.kinds.length,.eU,.i R,.i S],.row 3 0 (cl f1 y.2)]) (fun y=>0≤y.1∧y.1≤g.kinds.length∧pD g y.2) (fun y=>g.kinds.length-y.1.toNat) ?_ ?_
 ·simp
  exact z0
 rintro⟨i,h0⟩ ⟨i0,i1,ih⟩
 dsimp only at i0 i1 ih ⊢
 have mr:max i 0=i:=by omega
 have rX:=ih.len
 by_cases hi:i<g.kinds.length
 ·have jP:i<2:=by omega
  have w1:IntKind.i64.wrap (gt l (12+i))=gt l (12+i):=by
   have:=hw (12+i.toNat) (by omega)
   rwa [show((12+i.toNat:Nat):Int)=12+i by omega]at this
  have u1:0≤gt l (12+i):=by
   have:=hu (12+i.toNat) (by omega)
   rw[show((12+i.toNat:Nat):Int)=12+i by omega]at this
   exact this.1
  have r1:=jT (a:=gt l (12+i)) (b:=3) u1
  by_cases kY:(gt g.kinds i).pN=true
  ·have iP:∀ v,(pt h0 i v).length=h0.length:=fun v=>il i0 (by omega)
   have jw:i.toNat<g.kinds.length:=by omega
   simp[hl,mr,hi,jP,kY,w1,iP,rX,jw]
   (with_reducible repeat' first|refine Xk ?_<;>try simp[hl,mr,hi,jP,kY,w1,iP,rX,jw]|refine Xs ?_ ?_<;>intro h<;>(try intro h')<;>(try simp[h,hl,mr,hi,jP,kY,w1,iP,rX,jw])<;>try omega|refine Xg ?_|omega)
   ·refine LJ.e (i+1,pt (pt h0 i (fq (gt l (12+i)) 3)) i 8) ?_
    refine fQ ?_
    exact(ih.set i0 (by omega) (ql (fun _=>kY))).set i0 (by rw[il i0 (by omega)];omega) (ql (fun _=>kY))
   ·refine LJ.e (i+1,pt h0 i (fq (gt l (12+i)) 3)) ?_
    exact fQ (ih.set i0 (by omega) (ql (fun _=>kY)))
  ·simp[hl,mr,hi,jP,kY,w1]
   (with_reducible repeat' first|refine Xk ?_<;>try simp[hl,mr,hi,jP,kY,w1]|refine Xs ?_ ?_<;>intro h<;>(try intro h')<;>(try simp[h,hl,mr,hi,jP,kY,w1])<;>try omega|refine Xg ?_|omega)
   refine LJ.e (i+1,h0) ?_
   exact fQ ih
 simp[hi]
 (with_reducible repeat' first|refine Xk ?_<;>try simp[hi]|refine Xs ?_ ?_<;>intro h<;>(try intro h')<;>(try simp[h,hi])<;>try omega|refine Xg ?_|omega)
 clear hi mr i0 i1 rX
 rename pD g h0=>Sg
 refine kS.s (by simp;rfl) ?_
 refine kS.u ?_
 simp
 (with_reducible repeat' first|refine Xk ?_<;>try simp|refine Xs ?_ ?_<;>intro h<;>(try intro h')<;>(try simp[h])<;>try omega|refine Xg ?_|omega)
 refine fh.e ((0,List.replicate g.kinds.length 0):Int×List Int) (fun y=>[(2,.ptr 0 0 0),(3,.ptr 1 0 0),(4,.ptr 2 0 0),(5,.ptr 4 0 0),(8,.i 1),(9,.i y.1)]) (fun y=>[.row 43 0 g.cells,.row 30 0 (cl fU l),.row 46 0 [.eU,.eU,.eU,.i 0,.i 0],.row 3 0 (cl f1 cs),.row 46 0 [.eX 3 0 1 0 g.size.toNat,.eX 5 0 1 0 g.kinds.length,.eX 6 0 1 0 g.kinds.length,.i R,.i S],.row 3 0 (cl f1 h0),.row 3 0 (cl f1 y.2)]) (fun y=>0≤y.1∧y.1≤g.kinds.length∧pD g y.2) (fun y=>g.kinds.length-y.1.toNat) ?_ ?_
 ·simp
  exact z0
 rintro⟨i,h1⟩ ⟨i0,i1,ih⟩
 dsimp only at i0 i1 ih ⊢
 have mr:max (2+i) 0=(2+i):=by omega
 have rX:=ih.len
 by_cases hi:i<g.kinds.length
 ·have jP:i<2:=by omega
  have w1:IntKind.i64.wrap (gt l (12+(2+i)))=gt l (12+(2+i)):=by
   have:=hw (12+(2+i).toNat) (by omega)
   rwa [show((12+(2+i).toNat:Nat):Int)=12+(2+i)by omega]at this
  have u1:0≤gt l (12+(2+i)):=by
   have:=hu (12+(2+i).toNat) (by omega)
   rw[show((12+(2+i).toNat:Nat):Int)=12+(2+i)by omega]at this
   exact this.1
  have r1:=jT (a:=gt l (12+(2+i))) (b:=3) u1
  by_cases kY:(gt g.kinds i).pN=true
  ·have iP:∀ v,(pt h1 i v).length=h1.length:=fun v=>il i0 (by omega)
   have jw:i.toNat<g.kinds.length:=by omega
   simp[hl,mr,hi,jP,kY,w1,iP,rX,jw]
   (with_reducible repeat' first|refine Xk ?_<;>try simp[hl,mr,hi,jP,kY,w1,iP,rX,jw]|refine Xs ?_ ?_<;>intro h<;>(try intro h')<;>(try simp[h,hl,mr,hi,jP,kY,w1,iP,rX,jw])<;>try omega|refine Xg ?_|omega)
   ·refine LJ.e (i+1,pt (pt h1 i (fq (gt l (12+(2+i))) 3)) i 8) ?_
    refine fQ ?_
    exact(ih.set i0 (by omega) (ql (fun _=>kY))).set i0 (by rw[il i0 (by omega)];omega) (ql (fun _=>kY))
   ·refine LJ.e (i+1,pt h1 i (fq (gt l (12+(2+i))) 3)) ?_
    exact fQ (ih.set i0 (by omega) (ql (fun _=>kY)))
  ·simp[hl,mr,hi,jP,kY,w1]
   (with_reducible repeat' first|refine Xk ?_<;>try simp[hl,mr,hi,jP,kY,w1]|refine Xs ?_ ?_<;>intro h<;>(try intro h')<;>(try simp[h,hl,mr,hi,jP,kY,w1])<;>try omega|refine Xg ?_|omega)
   refine LJ.e (i+1,h1) ?_
   exact fQ ih
 simp[hi]
 (with_reducible repeat' first|refine Xk ?_<;>try simp[hi]|refine Xs ?_ ?_<;>intro h<;>(try intro h')<;>(try simp[h,hi])<;>try omega|refine Xg ?_|omega)
 clear hi mr i0 i1 rX
 rename pD g h1=>Sh
 refine kS.s (by simp;rfl) ?_
 refine kS.u ?_
 simp
 (with_reducible repeat' first|refine Xk ?_<;>try simp|refine Xs ?_ ?_<;>intro h<;>(try intro h')<;>(try simp[h])<;>try omega|refine Xg ?_|omega)
 exact Ey.i ⟨cs,h0,h1,R,S⟩ (by simp[i2,Sg.len,Sh.len,dP,Pos.cells]) rfl ⟨by simp only;omega,Sg,Sh,hR,hS,i3⟩
end Go.Proofs.YtmehofoficaelaaGreatDoor
namespace Go.AL
open Go
@[simp] theorem apU(ρ:Nat→Option Nat)(H:U)(k:Nat)(f:Fn)(a b:List D):e7 ρ H (k+1) (.fn f a b) = .fn f (a.map (e7 ρ H k)) (b.map (e7 ρ H k)):=by
 by_cases h:closed (.fn f a b)=true
 ·have h':=h
  simp only[OW,ah]at h'
  rw[ow h,x6 h'.1,x6 h'.2]
 ·rw[e7,if_neg h]
@[simp] theorem apV(ρ:Nat→Option Nat)(H:U)(k:Nat)(cs:List D):e7 ρ H (k+1) (.fj cs) = .fj (cs.map (e7 ρ H k)):=by
 by_cases h:closed (.fj cs)=true
 ·rw[ow h,x6 (by simpa using h)]
 ·rw[e7,if_neg h]
def OP(l:List Int):cl f1 l=l.map fun n=>D.i n:=by
 rw[nI]
 induction l with
 | nil=>rfl
 | cons a r ih=>simp[← ih]
def Vm{ρ:Nat→Option Nat}{H:U}{k n:Nat}{t:TypeId}{cs:List D}(l:List Int)(h:cs=l.map fun n=>D.i n)(hn:n=l.length):lQ ρ H (k+1) 1 0 n (some (t,cs))=dI l:=by
 rw[h,← OP,sY hn]
 rfl
@[simp] theorem aqE(a b:ByteArray):Av .eql a b=some (.b (decide (a=b))):=by
 have:(a.data.toList == b.data.toList)=decide (a=b):=by
  rw[Bool.eq_iff_iff,beq_iff_eq,decide_eq_true_iff]
  constructor
  ·intro h;cases a;cases b;congr 1;exact ew.1 h
  ·rintro rfl;rfl
 show some (D.val (.bool _))=_
 rw[this]
@[simp] theorem aj0(t:TypeId)(s:ByteArray)(n:Nat):qq t (.val (.string s)) n=some (.ptr n 0 0,.new (.row t 0 [.val (.string s)])):=rfl
@[simp] theorem ajX(t:TypeId)(m:Int)(n:Nat):qq t (.i m) n=some (.ptr n 0 0,.new (.row t 0 [.i m])):=rfl
@[simp] theorem akX(l:List (List fe)):closed (dN 1 fP l)=true:=w6 (fun a=>by simp[fE]) l
def C3(rf:Nat)(st:qp)(x:Option Ob)(P:Env→Prop):Prop:=∃ env,x=some (.gL rf env st)∧P env
@[simp] theorem ape{rf:Nat}{st:qp}{env:Env}{P:Env→Prop}:C3 rf st (some (.gL rf env st)) P=P env:=propext ⟨fun⟨_,h,k⟩=>by cases h;exact k,fun k=>⟨_,rfl,k⟩⟩
section
variable{T:gP}{v rf:Nat}{b:IR}{dst:Option Nat}{s s1:St}{K:St→Prop}
@[simp] theorem apz:S2 T v rf b dst s K (.norm s1)=C3 rf .ready s1.H[v]? fun kA=>XC T b { s1 with H:=s1.H.set v (.gL rf kA .busy) } (yp v rf dst s K):=rfl
@[simp] theorem apB:yp v rf dst s K (.norm s1)=C3 rf .busy s1.H[v]? fun kj=>K { s with env:=put s.env dst (.b true),H:=s1.H.set v (.gL rf kj .ready) }:=rfl
@[simp] theorem apA{id:Nat}:yp v rf dst s K (.exit id s1)=C3 rf .busy s1.H[v]? fun kj=>K { s with env:=put s.env dst (.b false),H:=s1.H.set v (.gL rf kj (.vw id)) }:=rfl
@[simp] theorem apC:yp v rf dst s K (.ret s1)=C3 rf .busy s1.H[v]? fun kj=>K { s with env:=put s.env dst (.b false),H:=s1.H.set v (.gL rf kj .w9) }:=rfl
@[simp] theorem apG{l:List D}{e:Env}:qQ [] l e=e:=by cases l<;>rfl
@[simp] theorem apF{k:Nat}{d:D}{ks:List Nat}{l:List D}{e:Env}:qQ (k::ks) (d::l) e=qQ ks l ((k,d)::e):=rfl
@[simp] theorem apc{s:St}:ym s .ready=some (.norm s):=rfl
@[simp] theorem apb{s:St}{id:Nat}:ym s (.vw id)=some (.exit id s):=rfl
@[simp] theorem apd{s:St}:ym s .w9=some (.ret s):=rfl
end
@[simp] theorem aon(n:Nat):oo n .kJ = []:=rfl
@[simp] theorem aor(n rf:Nat)(e:Env)(st:qp):oo n (.gL rf e st) = []:=rfl
theorem fG.nr{T:gP}{f:FuncId}{args mZ:List D}{dst:Option Nat}{s:St}{K:St→Prop}{fn:eV}{d:D}{Hn:U}(hf:T.fn f=some fn)(hp:fn.full=false)(h:Wf T f mZ [] fun d' H'=>d'=d∧H'=Hn)
  (hs:args.map (e7 (fun _=>none) s.H 40)=mZ) (hr:(np d&&Hn.all oe)=true) (mS:(lU d&&Hn.all mL)=true) (k:K { s with env:=put s.env dst (jK s.H.length d),H:=s.H++Hn }):fG T f args dst s K .mk:=by
 refine fG.is hf hp (K0:=fun d' H'=>d'=d∧H'=Hn) (by rw[hs];exact h) ?_
 rintro d' Gf ⟨rfl,rfl⟩
 refine⟨_,?_,k⟩
 unfold after
 by_cases hc:fE args=true
 ·rw[if_pos hc,if_pos mS]
 ·rw[if_neg hc,if_pos hr]
@[simp] theorem aow(v g sz off n:Nat):np (.eX v g sz off n)=true:=rfl
@[simp] theorem alG(t g:Nat)(cs:List D):oe (.row t g cs)=rQ cs:=rfl
@[simp] theorem alF(l:List Int):rQ (cl f1 l)=true:=by
 rw[OP]
 induction l with
 | nil=>rfl
 | cons a r ih=>simpa[rQ,flat]using ih
end Go.AL
namespace Go.Proofs.YtmehofoficaelaaGreatDoor
open Go Go.AL Classical
set_option maxRecDepth 10000
set_option maxHeartbeats 4000000
def f133(g:eY)(hg:gh g)(n:Int)(hn:0≤n∧n≤2*g.kinds.length):Wf T 168 [dG g,.i n] [] (Is (.b true)):=by
 have hk:=hg.kinds
 refine Yg Et ?_
 simp[Et]
 (with_reducible repeat' first|refine Xk ?_<;>try simp|refine Xs ?_ ?_<;>intro h<;>(try intro h')<;>(try simp[h])<;>try omega|refine Xg ?_|omega)
def f134(g:eY)(hg:gh g)(n:Int)(hn:0≤n∧n≤2*g.kinds.length):Wf T 169 [.i n,.fj [.fn (.func 168) [dG g] []]] [] (Is (.b false)):=by
 refine Yg Eu ?_
 simp[Eu]
 refine Yc (f133 g hg n hn) ?_
 simp
def f178(g:eY)(hg:gh g)(l:List Int)(hl:∀ n∈l,0≤n∧n≤2*g.kinds.length)(h9:l.length≤9):Wf T 230 [dI l,.fn (.func 169) [] [.fj [.fn (.func 168) [dG g] []]]] [] (Is (.i (-1))):=by
 refine Yg yQ ?_
 simp[yQ]
 refine fh.e (0:Int) (fun y=>[(0,dI l),(1,.fn (.func 169) [] [.fj [.fn (.func 168) [dG g] []]]),(7,.i l.length),(8,.i y)]) (fun y=>[]) (fun y=>0≤y∧y≤l.length) (fun y=>(l.length-y).toNat) ?_ ?_
 ·simp
 rintro i ⟨i0,i1⟩
 dsimp only at i0 i1 ⊢
 by_cases hi:i<l.length
 ·simp[hi]
  (with_reducible repeat' first|refine Xk ?_<;>try simp|refine Xs ?_ ?_<;>intro h<;>(try intro h')<;>(try simp[h])<;>try omega|refine Xg ?_|omega)
  refine Yc (f134 g hg (gt l i) (hl _ (ft i0 hi))) ?_
  simp
  (with_reducible repeat' first|refine Xk ?_<;>try simp|refine Xs ?_ ?_<;>intro h<;>(try intro h')<;>(try simp[h])<;>try omega|refine Xg ?_|omega)
  refine LJ.e (i+1) ?_
  exact mW
 ·simp[hi]
def f135(g:eY)(hg:gh g)(l:List Int)(hl:∀ n∈l,0≤n∧n≤2*g.kinds.length)(h9:l.length≤9):Wf T 170 [dI l,.fn (.func 169) [] [.fj [.fn (.func 168) [dG g] []]]] [] (Is (.b false)):=by
 refine Yg yP ?_
 simp[yP]
 refine Yc (f178 g hg l hl h9) ?_
 simp
def f136(g:eY)(hg:gh g)(l:List Int)(hl:pD g l):Wf T 171 [dG g,dI l] [] (Is (.b true)):=by
 have hk:=hg.kinds
 have hn:=hl.len
 refine Yg Ew ?_
 simp[Ew]
 (with_reducible repeat' first|refine Xk ?_<;>try simp[hn]|refine Xs ?_ ?_<;>intro h<;>(try intro h')<;>(try simp[h,hn])<;>try omega|refine Xg ?_|omega)
 refine fh.e (0:Int) (fun y=>[(2,.ptr 0 0 0),(14,dI l),(15,.i g.kinds.length),(16,.i y)]) (fun y=>[.row 279 0 g.cells]) (fun y=>0≤y∧y≤l.length) (fun y=>(l.length-y).toNat) ?_ ?_
 ·simp
 rintro i ⟨i0,i1⟩
 dsimp only at i0 i1 ⊢
 by_cases hi:i<l.length
 ·have ha:=hl.at_ i i0 hi
  have KW:i<g.kinds.length:=by omega
  by_cases hp:0<gt l i
  ·have ri:=ha.2.2 hp
   simp[hi]
   (with_reducible repeat' first|refine Xk ?_<;>try simp[ri,hp]|refine Xs ?_ ?_<;>intro h<;>(try intro h')<;>(try simp[h,ri,hp])<;>try omega|refine Xg ?_|omega)
   refine LJ.e (i+1) ?_
   exact mW
  ·simp[hi]
   (with_reducible repeat' first|refine Xk ?_<;>try simp[hp]|refine Xs ?_ ?_<;>intro h<;>(try intro h')<;>(try simp[h,hp])<;>try omega|refine Xg ?_|omega)
   refine LJ.e (i+1) ?_
   exact mW
 ·simp[show ¬ i<g.kinds.length by omega]
def f97(g:eY)(hg:gh g)(p:Pos)(hp:gG g p):Wf T 109 [dG g,dP p] [] (Is (.b true)):=by
 have hk:=hg.kinds
 have hr:=hg.fH
 have mS:=hp.fH
 have hs:=hp.side
 have hz:=hp.size
 have hb:=hg.iY.size
 have h4:=MX hr.1 (by omega)
 refine Yg Gc ?_
 simp[Gc,h4,hz]
 refine iC.r rfl rfl (f135 g hg p.cs hp.cs (by omega)) (by simp) (by simp[flat]) (by simp) ?_
 simp
 refine Yt (f136 g hg p.h0 hp.h0) ?_
 simp
 refine Yt (f136 g hg p.h1 hp.h1) ?_
 simp
 (with_reducible repeat' first|refine Xk ?_<;>try simp[h4]|refine Xs ?_ ?_<;>intro h<;>(try intro h')<;>(try simp[h,h4])<;>try omega|refine Xg ?_|omega)
 ·simp[*]
 ·have:p.side=1:=by omega
  simp[*]
def f177(n:Int):Wf T 251 [.i n] [] (Is (.b false)):=by
 refine Yg ER ?_
 simp[ER]
def f131(a b:Int):Wf T 220 [.i a,.i b] [] (Is (.i (jZ a b))):=by
 refine Yg Er ?_
 simp[Er]
 refine Yc (f177 a) ?_
 simp
 refine Yc (f177 b) ?_
 simp
 (with_reducible repeat' first|refine Xk ?_<;>try simp|refine Xs ?_ ?_<;>intro h<;>(try intro h')<;>(try simp[h])<;>try omega|refine Xg ?_|omega)
 all_goals
  unfold jZ
  (repeat' split)<;>(first|rfl|(exfalso;omega))
def f130(a b:List Int)(ha:a.length<2 ^ 40)(hb:b.length<2 ^ 40):Wf T 219 [dI a,dI b] [] (Is (.i (jS a b))):=by
 refine Yg Ep ?_
 simp[Ep]
 refine fh.e (0:Int) (fun i=>[(0,dI a),(1,dI b),(9,dI a),(10,.i a.length),(11,.i i)]) (fun i=>[]) (fun i=>0≤i∧i≤a.length∧i≤b.length∧a.take i.toNat=b.take i.toNat) (fun i=>a.length-i.toNat) ?_ ?_
 ·simp
 rintro i ⟨h0,h1,zt,h2⟩
 have e:=RI h2 (by omega) (by omega)
 by_cases hi:i<a.length
 ·by_cases hj:i<b.length
  ·simp[hi,hj]
   (with_reducible repeat' first|refine Xk ?_<;>try simp|refine Xs ?_ ?_<;>intro h<;>(try intro h')<;>(try simp[h])<;>try omega|refine Xg ?_|omega)
   refine Yc (f131 (gt a i) (gt b i)) ?_
   simp
   by_cases hz:jZ (gt a i) (gt b i)=0
   ·simp[hz]
    (with_reducible repeat' first|refine Xk ?_<;>try simp|refine Xs ?_ ?_<;>intro h<;>(try intro h')<;>(try simp[h])<;>try omega|refine Xg ?_|omega)
    refine LJ.e (i+1) ?_
    refine wm ?_
    rw[iD h0 hi,iD h0 hj,h2,uJ.1 hz]
   ·simp[hz]
    rw[e,mM h0 hi,mM h0 hj,jS,if_neg (fun h=>hz (uJ.2 h))]
  ·simp[hi,hj]
   (with_reducible repeat' first|refine Xk ?_<;>try simp|refine Xs ?_ ?_<;>intro h<;>(try intro h')<;>(try simp[h])<;>try omega|refine Xg ?_|omega)
   have h5:jZ ((a.drop i.toNat).length) ((b.drop i.toNat).length)=1:=by
    simp only[aX,jZ]
    rw[if_neg (by omega),if_pos (by omega)]
   rw[e,LV (by simp only[aX];omega),h5]
 ·simp[hi]
  (with_reducible repeat' first|refine Xk ?_<;>try simp|refine Xs ?_ ?_<;>intro h<;>(try intro h')<;>(try simp[h])<;>try omega|refine Xg ?_|omega)
  all_goals
   rw[e,LV (by simp only[aX];omega)]
   simp only[aX,jZ]
   (repeat' split)<;>omega
def f129(l:List Int)(hl:l.length<2 ^ 40):Wf T 218 [dI l] [] (Is (.i (ma l))):=by
 refine Yg Em ?_
 simp[Em]
 refine fh.e (0:Int) (fun i=>[(3,.i 0),(6,dI l),(7,.i l.length),(8,.i i)]) (fun i=>[]) (fun i=>0≤i∧i≤l.length∧ma l=ma (l.drop i.toNat)) (fun i=>l.length-i.toNat) ?_ ?_
 ·simp
 rintro i ⟨h0,h1,h2⟩
 by_cases hi:i<l.length
 ·rw[mM h0 hi]at h2
  by_cases hz:gt l i=0
  ·simp[hi,hz]
   (with_reducible repeat' first|refine Xk ?_<;>try simp|refine Xs ?_ ?_<;>intro h<;>(try intro h')<;>(try simp[h])<;>try omega|refine Xg ?_|omega)
   refine LJ.e (i+1) ?_
   refine fQ ?_
   rw[h2]
   simp only[ma,hz]
   rw[if_neg (by simp),show(i+1).toNat=i.toNat+1 by omega]
  ·simp[hi,hz]
   (with_reducible repeat' first|refine Xk ?_<;>try simp|refine Xs ?_ ?_<;>intro h<;>(try intro h')<;>(try simp[h])<;>try omega|refine Xg ?_|omega)
   rw[h2]
   simp[ma,hz]
 ·simp[hi]
  rw[h2,bL (by omega)]
  rfl
def f88(p q:Pos)(hp:Small p)(hq:Small q):Wf T 152 [dP p,dP q] [] (Is (.i (gR p q))):=by
 refine Yg F5 ?_
 simp[F5]
 refine Yt (f130 _ _ hp.1 hq.1) ?_
 simp
 refine Yt (f130 _ _ hp.2.1 hq.2.1) ?_
 simp
 refine Yt (f130 _ _ hp.2.2 hq.2.2) ?_
 simp
 refine Yt (f131 _ _) ?_
 simp
 refine Yt (f131 _ _) ?_
 simp
 refine iC.r rfl rfl (f129 [jS p.cs q.cs,jS p.h0 q.h0,jS p.h1 q.h1,jZ p.fH q.fH,jZ p.side q.side] (by simp)) (by simp;exact Vm _ rfl rfl) (by simp[flat]) (by simp) ?_
 simp
 rfl
def f100(l:List Pos)(hl:l.length<2 ^ 40)(hs:∀ p∈l,Small p)(vS:kc l):Wf T 112 [gA l] [] (Is (.b true)):=by
 refine Yg DH ?_
 simp[DH]
 (with_reducible repeat' first|refine Xk ?_<;>try simp|refine Xs ?_ ?_<;>intro h<;>(try intro h')<;>(try simp[h])<;>try omega|refine Xg ?_|omega)
 refine fh.e (0:Int) (fun i=>[(0,gA l),(6,.i (l.length-1)),(7,.i i)]) (fun i=>[]) (fun i=>0≤i) (fun i=>l.length-i.toNat) ?_ ?_
 ·simp
 rintro i h0
 by_cases hi:i<l.length-1
 ·simp[hi]
  (with_reducible repeat' first|refine Xk ?_<;>try simp|refine Xs ?_ ?_<;>intro h<;>(try intro h')<;>(try simp[h])<;>try omega|refine Xg ?_|omega)
  refine Yt (f88 _ _ (hs _ (ft h0 (by omega))) (hs _ (ft (n:=i+1) (by omega) (by omega)))) ?_
  simp
  have:=vS (i+1) (by omega) (by omega)
  rw[de]at this
  simp[show ¬ 0≤gR (gt l i) (gt l (i+1))by omega]
  (with_reducible repeat' first|refine Xk ?_<;>try simp|refine Xs ?_ ?_<;>intro h<;>(try intro h')<;>(try simp[h])<;>try omega|refine Xg ?_|omega)
  refine LJ.e (i+1) ?_
  exact jG
 ·simp[hi]
def f96(g:eY)(hg:gh g)(p:Pos)(hp:gG g p):Wf T 108 [dP p,.fj g.cells] [] (Is (.b false)):=by
 refine Yg Gb ?_
 simp[Gb]
 refine Yc (f97 g hg p hp) ?_
 simp
def f147(g:eY)(hg:gh g)(l:List Pos)(hl:∀ p∈l,gG g p)(h9:l.length<2 ^ 40):Wf T 182 [gA l,.fn (.func 108) [] [.fj g.cells]] [] (Is (.i (-1))):=by
 refine Yg EJ ?_
 simp[EJ]
 refine fh.e (0:Int) (fun y=>[(0,gA l),(1,.fn (.func 108) [] [.fj g.cells]),(7,.i l.length),(8,.i y)]) (fun y=>[]) (fun y=>0≤y∧y≤l.length) (fun y=>(l.length-y).toNat) ?_ ?_
 ·simp
 rintro i ⟨i0,i1⟩
 by_cases hi:i<l.length
 ·simp[hi]
  (with_reducible repeat' first|refine Xk ?_<;>try simp|refine Xs ?_ ?_<;>intro h<;>(try intro h')<;>(try simp[h])<;>try omega|refine Xg ?_|omega)
  refine Yc (f96 g hg (gt l i) (hl _ (ft i0 hi))) ?_
  simp
  (with_reducible repeat' first|refine Xk ?_<;>try simp|refine Xs ?_ ?_<;>intro h<;>(try intro h')<;>(try simp[h])<;>try omega|refine Xg ?_|omega)
  refine LJ.e (i+1) ?_
  exact mW
 ·simp[hi]
def f99(g:eY)(hg:gh g)(l:List Pos)(hl:∀ p∈l,gG g p)(h9:l.length<2 ^ 40):Wf T 111 [gA l,.fn (.func 108) [] [.fj g.cells]] [] (Is (.b false)):=by
 refine Yg Ge ?_
 simp[Ge]
 refine Yc (f147 g hg l hl h9) ?_
 simp
