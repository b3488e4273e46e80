/- 17 -/
import Derived.Test.YtnaefnajkaohgaaGreatDoorH16
set_option linter.all false
namespace Go.Proofs.YtnaefnajkaohgaaGreatDoor
open Go Go.AL Classical
set_option maxRecDepth 10000
set_option maxHeartbeats 1000000
@[simp] theorem akL(n:Int)(nx:List (List Int))(tn:List Int):closed (bD n nx tn)=true:=by simp[bD]
theorem f104(w xF c:Int)(hw:0≤w∧w<256)(hh:0≤xF∧xF<256)(hc:0≤c∧c<256):Wf T 104 [.val (.int .u8 w),.val (.int .u8 xF),.val (.int .u8 c)] [] (Ey (fun x:Int×List (List Int)×List Int=>bD x.1 x.2.1 x.2.2) fun x=>mX (x8 x.1 x.2.1 x.2.2)):=by
 have w1:=kC (a:=w) (b:=3) hw.1
 have h1:=kC (a:=xF) (b:=3) hh.1
 have w2:IntKind.i64.wrap (eZ w 3)=eZ w 3:=pf oO
 have h2:IntKind.i64.wrap (eZ xF 3)=eZ xF 3:=pf oO
 have c2:IntKind.i64.wrap c=c:=pf oO
 refine Yg DP ?_
 simp[DP,w2,h2]
 (with_reducible repeat' first|refine Xk ?_<;>try simp|refine Xs ?_ ?_<;>intro h<;>(try intro h')<;>(try simp[h])<;>try omega|refine Xg ?_|omega)
 obtain⟨n,nx,tn,hg,hb⟩:=f149 (1+eZ w 3) (1+eZ xF 3) (by omega) (by omega)
 have hn:1≤n∧n≤9:=hb.size
 refine fg.c rfl rfl hg (by simp) (by simp[bD]) ?_
 simp[bD,c2]
 (with_reducible repeat' first|refine Xk ?_<;>try simp|refine Xs ?_ ?_<;>intro h<;>(try intro h')<;>(try simp[h])<;>try omega|refine Xg ?_|omega)
 ·rw[c2]
  have hr:=kC (a:=c) (b:=n) hc.1
  have sA:=bW c (show n≠0 by omega)
  have B6:=bU c (show 0<n by omega)
  refine Yv (f150 n nx tn hb (eZ c n) (by omega)) fun x hx=>?_
  simp
  simp[bD]
  exact Ey.i (n,x,tn) rfl rfl hx
 ·exact Ey.i (n,nx,tn) rfl rfl hb
theorem iP.s{T:gy}{n:Nat}{live:List Nat}{a:IR}{s s':St}{K:gS}(hs:s=s')(h:iP T n live a s' K .mk):iP T n live a s K .mk:=by subst hs;exact h
theorem eN.s{T:gy}{live:List Nat}{a:IR}{s s':St}{K:gS}(hs:s=s')(h:eN T live a s' K .mk):eN T live a s K .mk:=by subst hs;exact h
def Oo(l:List Int):cl fU l=l.map fun n=>D.val (.int .u8 n):=by
 rw[nK]
 induction l with
 | nil=>rfl
 | cons a r ih=>simp[← ih]
@[simp] theorem anR{l:List Int}{k:Nat}{P:D→Prop}:oA (cl fU l)[k]? P .mk=(k<l.length∧P (.val (.int .u8 (gt l k)))):=by
 rw[Oo]
 by_cases h:k<l.length
 ·simp[h,gt]
 ·simp[h]
@[simp] theorem ajv{l:List Int}{k:Nat}(h:k<(cl fU l).length):(cl fU l)[k] = .val (.int .u8 (gt l k)):=by
 have h':k<l.length:=by simpa using h
 simp[Oo,gt,h']
def f59(g:eH)(hg:fe g)(l:List Int)(hl:l.length=18)(h:∀ n∈l,0≤n∧n<256) :
  Wf T 59 [dG g,.agg (cl fU l)] [] (Ey dP (fO g)):=by
 have hb:=hg.iw.size
 have hk:=hg.kinds
 have hr:=hg.ff
 have h4:=MX hr.1
 have h5:=Af hr.1
 have h6:(0:Int)<2 ^ g.ff.toNat:=Int.pow_pos (by decide)
 have hu:∀ k:Nat,k<18→0≤gt l k∧gt l k<256:=fun k hk=>h _ (eQ (by omega) (by omega))
 have hw:∀ k:Nat,k<18→IntKind.i64.wrap (gt l k)=gt l k:=fun k hk=>by
  have:=hu k hk
  exact pf oO
 have Ic:=hw 16 (by omega)
 have YV:=hw 17 (by omega)
 have QJ:=hu 16 (by omega)
 have QK:=hu 17 (by omega)
 simp at Ic YV QJ QK
 have r16:=kC (a:=gt l 16) (b:=2 ^ g.ff.toNat) QJ.1
 have m16:=bW (gt l 16) (show(2:Int) ^ g.ff.toNat≠0 by omega)
 have n16:=bU (gt l 16) h6
 have r17:=kC (a:=gt l 17) (b:=2) QK.1
 have Na:IntKind.i64.wrap (eZ (gt l 17) 2)=eZ (gt l 17) 2:=pf oO
 have hR:0≤eZ (gt l 16) (2 ^ g.ff.toNat)∧eZ (gt l 16) (2 ^ g.ff.toNat)<2 ^ g.ff.toNat:=by omega
 have hS:0≤eZ (gt l 17) 2∧eZ (gt l 17) 2≤1:=by omega
 refine Yg FO ?_
 simp[FO,h4,hl,Ic,Na]
 generalize eZ (gt l 16) (2 ^ g.ff.toNat)=R at *
 generalize eZ (gt l 17) 2=S at *
 (with_reducible repeat' first|refine Xk ?_<;>try simp[h4,hl,Ic,Na]|refine Xs ?_ ?_<;>intro h<;>(try intro h')<;>(try simp[h,h4,hl,Ic,Na])<;>try omega|refine Xg ?_|omega)
 refine eN.e ((0,List.replicate g.size.toNat 0):Int×List Int) (fun y=>[(2,.ptr 0 0 0),(3,.ptr 1 0 0),(4,.ptr 2 0 0),(5,.ptr 4 0 0),(6,.i y.1)]) (fun y=>[.row 41 0 g.cells,.row 30 0 (cl fU l),.row 44 0 [.eG,.eG,.eG,.i 0,.i 0],.row 3 0 (cl f1 y.2),.row 44 0 [.eF 3 0 1 0 g.size.toNat,.eG,.eG,.i R,.i S]]) (fun y=>0≤y.1∧y.1≤6∧y.2.length=g.size.toNat∧∀ x∈y.2,0≤x∧x≤2*g.kinds.length) (fun y=>6-y.1.toNat) ?_ ?_
 ·simp
  (with_reducible repeat' first|refine Xk ?_<;>try simp|refine Xs ?_ ?_<;>intro h<;>(try intro h')<;>(try simp[h])<;>try omega|refine Xg ?_|omega)
 rintro⟨i,cs⟩ ⟨i0,i1,i2,i3⟩
 dsimp only at i0 i1 i2 i3 ⊢
 have mz:max i 0=i:=by omega
 by_cases hi:i<6
 ·have w1:IntKind.i64.wrap (gt l i)=gt l i:=by
   have:=hw i.toNat (by omega)
   rwa [cr i0]at this
  have w2:IntKind.i64.wrap (gt l (6+i))=gt l (6+i):=by
   have:=hw (6+i.toNat) (by omega)
   rwa [show((6+i.toNat:Nat):Int)=6+i by omega]at this
  have u1:0≤gt l i:=by
   have:=hu i.toNat (by omega)
   rw[cr i0]at this
   exact this.1
  have u2:0≤gt l (6+i):=by
   have:=hu (6+i.toNat) (by omega)
   rw[show((6+i.toNat:Nat):Int)=6+i by omega]at this
   exact this.1
  have r1:=kC (a:=gt l i) (b:=g.size+1) u1
  have e1:=bW (gt l i) (show g.size+1≠0 by omega)
  have r2:=kC (a:=gt l (6+i)) (b:=g.kinds.length) u2
  have e2:=bW (gt l (6+i)) (show(g.kinds.length:Int)≠0 by omega)
  have e3:=bU (gt l (6+i)) (show(0:Int)<g.kinds.length by omega)
  have r3:=kC (a:=i) (b:=2) i0
  simp[hl,mz,hi,w1,w2]
  have gw:g.kinds≠[]:=by intro h;simp[h]at hk
  obtain⟨A,hA⟩:∃ A,eZ (gt l i) (g.size+1)=A:=⟨_,rfl⟩
  obtain⟨B,hB⟩:∃ B,eZ (gt l (6+i)) g.kinds.length=B:=⟨_,rfl⟩
  obtain⟨C,hC⟩:∃ B,eZ i 2=B:=⟨_,rfl⟩
  rw[hA]at r1
  rw[hB]at r2
  rw[hC]at r3
  simp only[hA]
  (with_reducible repeat' first|refine Xk ?_<;>try simp[hl,mz,w1,w2,hA,hB,hC,gw]|refine Xs ?_ ?_<;>intro h<;>(try intro h')<;>(try simp[h,hl,mz,w1,w2,hA,hB,hC,gw])<;>try omega|refine Xg ?_|omega)
  ·(with_reducible repeat' first|refine Xk ?_<;>try simp[gw]|refine Xs ?_ ?_<;>intro h<;>(try intro h')<;>(try simp[h,gw])<;>try omega|refine Xg ?_|omega)
   refine LJ.e (i+1,pt cs A (1+2*B+C)) ?_
   dsimp only
   have hv:0≤1+2*B+C∧1+2*B+C≤2*g.kinds.length:=by omega
   refine eY ⟨?_,?_⟩
   ·have:=gN (l:=cs) (n:=A) (v:=1+2*B+C) (by omega) (by omega)
    omega
   ·intro x hx
    rcases RE hx with rfl|hx
    ·exact hv
    ·exact i3 x hx
  ·refine LJ.e (i+1,cs) ?_
   exact eY ⟨i2,i3⟩
 simp[hi]
 have z0:pP g (List.replicate g.kinds.length 0):=⟨by simp,fun k hk kH=>by
  have e:gt (List.replicate g.kinds.length (0:Int)) k=0:=by
   simp at kH
   have:k.toNat<g.kinds.length:=by omega
   simp[gt,this]
  rw[e];omega⟩
 refine eN.un ?_
 refine iP.s (by simp;rfl) ?_
 refine iP.u ?_
 simp
 (with_reducible repeat' first|refine Xk ?_<;>try simp|refine Xs ?_ ?_<;>intro h<;>(try intro h')<;>(try simp[h])<;>try omega|refine Xg ?_|omega)
 refine eN.e ((0,List.replicate g.kinds.length 0):Int×List Int) (fun y=>[(2,.ptr 0 0 0),(3,.ptr 1 0 0),(4,.ptr 2 0 0),(5,.ptr 4 0 0),(8,.i 0),(9,.i y.1)]) (fun y=>[.row 41 0 g.cells,.row 30 0 (cl fU l),.row 44 0 [.eG,.eG,.eG,.i 0,.i 0],.row 3 0 (cl f1 cs),.row 44 0 [.eF 3 0 1 0 g.size.toNat,.eF 5 0 1 0 g.kinds.length,.eG,.i R,.i S],.row 3 0 (cl f1 y.2)]) (fun y=>0≤y.1∧y.1≤g.kinds.length∧pP g y.2) (fun y=>g.kinds.length-y.1.toNat) ?_ ?_
 ·simp
  exact z0
 rintro⟨i,h0⟩ ⟨i0,i1,ih⟩
 dsimp only at i0 i1 ih ⊢
 have mz:max i 0=i:=by omega
 have uN:=ih.len
 by_cases hi:i<g.kinds.length
 ·have iZ:i<2:=by omega
  have w1:IntKind.i64.wrap (gt l (12+i))=gt l (12+i):=by
   have:=hw (12+i.toNat) (by omega)
   rwa [show((12+i.toNat:Nat):Int)=12+i by omega]at this
  have u1:0≤gt l (12+i):=by
   have:=hu (12+i.toNat) (by omega)
   rw[show((12+i.toNat:Nat):Int)=12+i by omega]at this
   exact this.1
  have r1:=kC (a:=gt l (12+i)) (b:=3) u1
  by_cases kU:(gt g.kinds i).pY=true
  ·have gK:∀ v,(pt h0 i v).length=h0.length:=fun v=>gN i0 (by omega)
   have je:i.toNat<g.kinds.length:=by omega
   simp[hl,mz,hi,iZ,kU,w1,gK,uN,je]
   (with_reducible repeat' first|refine Xk ?_<;>try simp[hl,mz,hi,iZ,kU,w1,gK,uN,je]|refine Xs ?_ ?_<;>intro h<;>(try intro h')<;>(try simp[h,hl,mz,hi,iZ,kU,w1,gK,uN,je])<;>try omega|refine Xg ?_|omega)
   ·refine LJ.e (i+1,pt (pt h0 i (eZ (gt l (12+i)) 3)) i 8) ?_
    refine eY ?_
    exact(ih.set i0 (by omega) (nk (fun _=>kU))).set i0 (by rw[gN i0 (by omega)];omega) (nk (fun _=>kU))
   ·refine LJ.e (i+1,pt h0 i (eZ (gt l (12+i)) 3)) ?_
    exact eY (ih.set i0 (by omega) (nk (fun _=>kU)))
  ·simp[hl,mz,hi,iZ,kU,w1]
   (with_reducible repeat' first|refine Xk ?_<;>try simp[hl,mz,hi,iZ,kU,w1]|refine Xs ?_ ?_<;>intro h<;>(try intro h')<;>(try simp[h,hl,mz,hi,iZ,kU,w1])<;>try omega|refine Xg ?_|omega)
   refine LJ.e (i+1,h0) ?_
   exact eY ih
 simp[hi]
 (with_reducible repeat' first|refine Xk ?_<;>try simp[hi]|refine Xs ?_ ?_<;>intro h<;>(try intro h')<;>(try simp[h,hi])<;>try omega|refine Xg ?_|omega)
 clear hi mz i0 i1 uN
 rename pP g h0=>RR
 refine iP.s (by simp;rfl) ?_
 refine iP.u ?_
 simp
 (with_reducible repeat' first|refine Xk ?_<;>try simp|refine Xs ?_ ?_<;>intro h<;>(try intro h')<;>(try simp[h])<;>try omega|refine Xg ?_|omega)
 refine eN.e ((0,List.replicate g.kinds.length 0):Int×List Int) (fun y=>[(2,.ptr 0 0 0),(3,.ptr 1 0 0),(4,.ptr 2 0 0),(5,.ptr 4 0 0),(8,.i 1),(9,.i y.1)]) (fun y=>[.row 41 0 g.cells,.row 30 0 (cl fU l),.row 44 0 [.eG,.eG,.eG,.i 0,.i 0],.row 3 0 (cl f1 cs),.row 44 0 [.eF 3 0 1 0 g.size.toNat,.eF 5 0 1 0 g.kinds.length,.eF 6 0 1 0 g.kinds.length,.i R,.i S],.row 3 0 (cl f1 h0),.row 3 0 (cl f1 y.2)]) (fun y=>0≤y.1∧y.1≤g.kinds.length∧pP g y.2) (fun y=>g.kinds.length-y.1.toNat) ?_ ?_
 ·simp
  exact z0
 rintro⟨i,h1⟩ ⟨i0,i1,ih⟩
 dsimp only at i0 i1 ih ⊢
 have mz:max (2+i) 0=(2+i):=by omega
 have uN:=ih.len
 by_cases hi:i<g.kinds.length
 ·have iZ:i<2:=by omega
  have w1:IntKind.i64.wrap (gt l (12+(2+i)))=gt l (12+(2+i)):=by
   have:=hw (12+(2+i).toNat) (by omega)
   rwa [show((12+(2+i).toNat:Nat):Int)=12+(2+i)by omega]at this
  have u1:0≤gt l (12+(2+i)):=by
   have:=hu (12+(2+i).toNat) (by omega)
   rw[show((12+(2+i).toNat:Nat):Int)=12+(2+i)by omega]at this
   exact this.1
  have r1:=kC (a:=gt l (12+(2+i))) (b:=3) u1
  by_cases kU:(gt g.kinds i).pY=true
  ·have gK:∀ v,(pt h1 i v).length=h1.length:=fun v=>gN i0 (by omega)
   have je:i.toNat<g.kinds.length:=by omega
   simp[hl,mz,hi,iZ,kU,w1,gK,uN,je]
   (with_reducible repeat' first|refine Xk ?_<;>try simp[hl,mz,hi,iZ,kU,w1,gK,uN,je]|refine Xs ?_ ?_<;>intro h<;>(try intro h')<;>(try simp[h,hl,mz,hi,iZ,kU,w1,gK,uN,je])<;>try omega|refine Xg ?_|omega)
   ·refine LJ.e (i+1,pt (pt h1 i (eZ (gt l (12+(2+i))) 3)) i 8) ?_
    refine eY ?_
    exact(ih.set i0 (by omega) (nk (fun _=>kU))).set i0 (by rw[gN i0 (by omega)];omega) (nk (fun _=>kU))
   ·refine LJ.e (i+1,pt h1 i (eZ (gt l (12+(2+i))) 3)) ?_
    exact eY (ih.set i0 (by omega) (nk (fun _=>kU)))
  ·simp[hl,mz,hi,iZ,kU,w1]
   (with_reducible repeat' first|refine Xk ?_<;>try simp[hl,mz,hi,iZ,kU,w1]|refine Xs ?_ ?_<;>intro h<;>(try intro h')<;>(try simp[h,hl,mz,hi,iZ,kU,w1])<;>try omega|refine Xg ?_|omega)
   refine LJ.e (i+1,h1) ?_
   exact eY ih
 simp[hi]
 (with_reducible repeat' first|refine Xk ?_<;>try simp[hi]|refine Xs ?_ ?_<;>intro h<;>(try intro h')<;>(try simp[h,hi])<;>try omega|refine Xg ?_|omega)
 clear hi mz i0 i1 uN
 rename pP g h1=>RS
 refine iP.s (by simp;rfl) ?_
 refine iP.u ?_
 simp
 (with_reducible repeat' first|refine Xk ?_<;>try simp|refine Xs ?_ ?_<;>intro h<;>(try intro h')<;>(try simp[h])<;>try omega|refine Xg ?_|omega)
 exact Ey.i ⟨cs,h0,h1,R,S⟩ (by simp[i2,RR.len,RS.len,dP,Pos.cells]) rfl ⟨by simp only;omega,RR,RS,hR,hS,i3⟩
end Go.Proofs.YtnaefnajkaohgaaGreatDoor
namespace Go.AL
open Go
@[simp] theorem apM(ρ:Nat→Option Nat)(H:U)(k:Nat)(f:Fn)(a b:List D):eP ρ H (k+1) (.fn f a b) = .fn f (a.map (eP ρ H k)) (b.map (eP ρ H k)):=by
 by_cases h:closed (.fn f a b)=true
 ·have h':=h
  simp only[JV,ah]at h'
  rw[mD h,x6 h'.1,x6 h'.2]
 ·rw[eP,if_neg h]
@[simp] theorem apN(ρ:Nat→Option Nat)(H:U)(k:Nat)(cs:List D):eP ρ H (k+1) (.eW cs) = .eW (cs.map (eP ρ H k)):=by
 by_cases h:closed (.eW cs)=true
 ·rw[mD h,x6 (by simpa using h)]
 ·rw[eP,if_neg h]
def GN(l:List Int):cl f1 l=l.map fun n=>D.i n:=by
 rw[nK]
 induction l with
 | nil=>rfl
 | cons a r ih=>simp[← ih]
def UX{ρ:Nat→Option Nat}{H:U}{k n:Nat}{t:TypeId}{cs:List D}(l:List Int)(h:cs=l.map fun n=>D.i n)(hn:n=l.length):ng ρ H (k+1) 1 0 n (some (t,cs))=dI l:=by
 rw[h,← GN,py hn]
 rfl
@[simp] theorem aqq(a b:ByteArray):Aw .eql a b=some (.b (decide (a=b))):=by
 have:(a.data.toList == b.data.toList)=decide (a=b):=by
  rw[Bool.eq_iff_iff,beq_iff_eq,decide_eq_true_iff]
  constructor
  ·intro h;cases a;cases b;congr 1;exact dY.1 h
  ·rintro rfl;rfl
 show some (D.val (.bool _))=_
 rw[this]
@[simp] theorem ajY(t:TypeId)(s:ByteArray)(n:Nat):po t (.val (.string s)) n=some (.ptr n 0 0,.new (.row t 0 [.val (.string s)])):=rfl
@[simp] theorem ajV(t:TypeId)(m:Int)(n:Nat):po t (.i m) n=some (.ptr n 0 0,.new (.row t 0 [.i m])):=rfl
@[simp] theorem akR(l:List (List eO)):closed (dN 1 fP l)=true:=xb (fun a=>by simp[fu]) l
def C7(rf:Nat)(st:qb)(x:Option Ob)(P:Env→Prop):Prop:=∃ env,x=some (.gu rf env st)∧P env
@[simp] theorem ao2{rf:Nat}{st:qb}{env:Env}{P:Env→Prop}:C7 rf st (some (.gu rf env st)) P=P env:=propext ⟨fun⟨_,h,k⟩=>by cases h;exact k,fun k=>⟨_,rfl,k⟩⟩
section
variable{T:gy}{v rf:Nat}{b:IR}{dst:Option Nat}{s s1:St}{K:St→Prop}
@[simp] theorem apq:SD T v rf b dst s K (.norm s1)=C7 rf .ready s1.H[v]? fun ka=>XC T b { s1 with H:=s1.H.set v (.gu rf ka .busy) } (ym v rf dst s K):=rfl
@[simp] theorem aps:ym v rf dst s K (.norm s1)=C7 rf .busy s1.H[v]? fun jU=>K { s with env:=put s.env dst (.b true),H:=s1.H.set v (.gu rf jU .ready) }:=rfl
@[simp] theorem apr{id:Nat}:ym v rf dst s K (.exit id s1)=C7 rf .busy s1.H[v]? fun jU=>K { s with env:=put s.env dst (.b false),H:=s1.H.set v (.gu rf jU (.vH id)) }:=rfl
@[simp] theorem apx{l:List D}{e:Env}:re [] l e=e:=by cases l<;>rfl
@[simp] theorem apw{k:Nat}{d:D}{ks:List Nat}{l:List D}{e:Env}:re (k::ks) (d::l) e=re ks l ((k,d)::e):=rfl
@[simp] theorem ao0{s:St}:yj s .ready=some (.norm s):=rfl
@[simp] theorem aoZ{s:St}{id:Nat}:yj s (.vH id)=some (.exit id s):=rfl
end
@[simp] theorem aoe(n:Nat):mT n .jZ = []:=rfl
@[simp] theorem aog(n rf:Nat)(e:Env)(st:qb):mT n (.gu rf e st) = []:=rfl
theorem fg.nr{T:gy}{f:FuncId}{args nZ:List D}{dst:Option Nat}{s:St}{K:St→Prop}{fn:eI}{d:D}{Hn:U}(hf:T.fn f=some fn)(hp:fn.full=false)(h:Wf T f nZ [] fun d' H'=>d'=d∧H'=Hn)
  (hs:args.map (eP (fun _=>none) s.H 40)=nZ) (hr:(nU d&&Hn.all oi)=true) (uR:(lM d&&Hn.all mO)=true) (k:K { s with env:=put s.env dst (jx s.H.length d),H:=s.H++Hn }):fg T f args dst s K .mk:=by
 refine fg.is hf hp (K0:=fun d' H'=>d'=d∧H'=Hn) (by rw[hs];exact h) ?_
 rintro d' A2 ⟨rfl,rfl⟩
 refine⟨_,?_,k⟩
 unfold after
 by_cases hc:fu args=true
 ·rw[if_pos hc,if_pos uR]
 ·rw[if_neg hc,if_pos hr]
@[simp] theorem aok(v g sz off n:Nat):nU (.eF v g sz off n)=true:=rfl
@[simp] theorem alE(t g:Nat)(cs:List D):oi (.row t g cs)=oh cs:=rfl
@[simp] theorem alC(l:List Int):oh (cl f1 l)=true:=by
 rw[GN]
 induction l with
 | nil=>rfl
 | cons a r ih=>simpa[oh,flat]using ih
end Go.AL
namespace Go.Proofs.YtnaefnajkaohgaaGreatDoor
open Go Go.AL Classical
set_option maxRecDepth 10000
set_option maxHeartbeats 4000000
def f133(g:eH)(hg:fe g)(n:Int)(hn:0≤n∧n≤2*g.kinds.length):Wf T 133 [dG g,.i n] [] (Is (.b true)):=by
 have hk:=hg.kinds
 refine Yg D8 ?_
 simp[D8]
 (with_reducible repeat' first|refine Xk ?_<;>try simp|refine Xs ?_ ?_<;>intro h<;>(try intro h')<;>(try simp[h])<;>try omega|refine Xg ?_|omega)
def f134(g:eH)(hg:fe g)(n:Int)(hn:0≤n∧n≤2*g.kinds.length):Wf T 134 [.i n,.eW [.fn (.func 133) [dG g] []]] [] (Is (.b false)):=by
 refine Yg D9 ?_
 simp[D9]
 refine Yc (f133 g hg n hn) ?_
 simp
def f178(g:eH)(hg:fe g)(l:List Int)(hl:∀ n∈l,0≤n∧n≤2*g.kinds.length)(h9:l.length≤9):Wf T 178 [dI l,.fn (.func 134) [] [.eW [.fn (.func 133) [dG g] []]]] [] (Is (.i (-1))):=by
 refine Yg yL ?_
 simp[yL]
 refine eN.e (0:Int) (fun y=>[(0,dI l),(1,.fn (.func 134) [] [.eW [.fn (.func 133) [dG g] []]]),(7,.i l.length),(8,.i y)]) (fun y=>[]) (fun y=>0≤y∧y≤l.length) (fun y=>(l.length-y).toNat) ?_ ?_
 ·simp
 rintro i ⟨i0,i1⟩
 dsimp only at i0 i1 ⊢
 by_cases hi:i<l.length
 ·simp[hi]
  (with_reducible repeat' first|refine Xk ?_<;>try simp|refine Xs ?_ ?_<;>intro h<;>(try intro h')<;>(try simp[h])<;>try omega|refine Xg ?_|omega)
  refine Yc (f134 g hg (gt l i) (hl _ (eQ i0 hi))) ?_
  simp
  (with_reducible repeat' first|refine Xk ?_<;>try simp|refine Xs ?_ ?_<;>intro h<;>(try intro h')<;>(try simp[h])<;>try omega|refine Xg ?_|omega)
  refine LJ.e (i+1) ?_
  exact l4
 ·simp[hi]
def f135(g:eH)(hg:fe g)(l:List Int)(hl:∀ n∈l,0≤n∧n≤2*g.kinds.length)(h9:l.length≤9):Wf T 135 [dI l,.fn (.func 134) [] [.eW [.fn (.func 133) [dG g] []]]] [] (Is (.b false)):=by
 refine Yg yJ ?_
 simp[yJ]
 refine Yc (f178 g hg l hl h9) ?_
 simp
def f136(g:eH)(hg:fe g)(l:List Int)(hl:pP g l):Wf T 136 [dG g,dI l] [] (Is (.b true)):=by
 have hk:=hg.kinds
 have hn:=hl.len
 refine Yg D' ?_
 simp[D']
 (with_reducible repeat' first|refine Xk ?_<;>try simp[hn]|refine Xs ?_ ?_<;>intro h<;>(try intro h')<;>(try simp[h,hn])<;>try omega|refine Xg ?_|omega)
 refine eN.e (0:Int) (fun y=>[(2,.ptr 0 0 0),(14,dI l),(15,.i g.kinds.length),(16,.i y)]) (fun y=>[.row 214 0 g.cells]) (fun y=>0≤y∧y≤l.length) (fun y=>(l.length-y).toNat) ?_ ?_
 ·simp
 rintro i ⟨i0,i1⟩
 dsimp only at i0 i1 ⊢
 by_cases hi:i<l.length
 ·have ha:=hl.at_ i i0 hi
  have K8:i<g.kinds.length:=by omega
  by_cases hp:0<gt l i
  ·have vV:=ha.2.2 hp
   simp[hi]
   (with_reducible repeat' first|refine Xk ?_<;>try simp[vV,hp]|refine Xs ?_ ?_<;>intro h<;>(try intro h')<;>(try simp[h,vV,hp])<;>try omega|refine Xg ?_|omega)
   refine LJ.e (i+1) ?_
   exact l4
  ·simp[hi]
   (with_reducible repeat' first|refine Xk ?_<;>try simp[hp]|refine Xs ?_ ?_<;>intro h<;>(try intro h')<;>(try simp[h,hp])<;>try omega|refine Xg ?_|omega)
   refine LJ.e (i+1) ?_
   exact l4
 ·simp[show ¬ i<g.kinds.length by omega]
def f97(g:eH)(hg:fe g)(p:Pos)(hp:fO g p):Wf T 97 [dG g,dP p] [] (Is (.b true)):=by
 have hk:=hg.kinds
 have hr:=hg.ff
 have uR:=hp.ff
 have hs:=hp.side
 have hz:=hp.size
 have hb:=hg.iw.size
 have h4:=MX hr.1
 refine Yg Gm ?_
 simp[Gm,h4,hz]
 refine gQ.r rfl rfl (f135 g hg p.cs hp.cs (by omega)) (by simp) (by simp[flat]) (by simp) ?_
 simp
 refine Yt (f136 g hg p.h0 hp.h0) ?_
 simp
 refine Yt (f136 g hg p.h1 hp.h1) ?_
 simp
 (with_reducible repeat' first|refine Xk ?_<;>try simp[h4]|refine Xs ?_ ?_<;>intro h<;>(try intro h')<;>(try simp[h,h4])<;>try omega|refine Xg ?_|omega)
 ·simp[*]
 ·have:p.side=1:=by omega
  simp[*]
def f177(n:Int):Wf T 177 [.i n] [] (Is (.b false)):=by
 refine Yg ED ?_
 simp[ED]
def f131(a b:Int):Wf T 131 [.i a,.i b] [] (Is (.i (jK a b))):=by
 refine Yg D6 ?_
 simp[D6]
 refine Yc (f177 a) ?_
 simp
 refine Yc (f177 b) ?_
 simp
 (with_reducible repeat' first|refine Xk ?_<;>try simp|refine Xs ?_ ?_<;>intro h<;>(try intro h')<;>(try simp[h])<;>try omega|refine Xg ?_|omega)
 all_goals
  unfold jK
  (repeat' split)<;>(first|rfl|(exfalso;omega))
def f130(a b:List Int)(ha:a.length<2 ^ 40)(hb:b.length<2 ^ 40):Wf T 130 [dI a,dI b] [] (Is (.i (jC a b))):=by
 refine Yg D5 ?_
 simp[D5]
 refine eN.e (0:Int) (fun i=>[(0,dI a),(1,dI b),(9,dI a),(10,.i a.length),(11,.i i)]) (fun i=>[]) (fun i=>0≤i∧i≤a.length∧i≤b.length∧a.take i.toNat=b.take i.toNat) (fun i=>a.length-i.toNat) ?_ ?_
 ·simp
 rintro i ⟨h0,h1,Hx,h2⟩
 have e:=Ro h2 (by omega) (by omega)
 by_cases hi:i<a.length
 ·by_cases hj:i<b.length
  ·simp[hi,hj]
   (with_reducible repeat' first|refine Xk ?_<;>try simp|refine Xs ?_ ?_<;>intro h<;>(try intro h')<;>(try simp[h])<;>try omega|refine Xg ?_|omega)
   refine Yc (f131 (gt a i) (gt b i)) ?_
   simp
   by_cases hz:jK (gt a i) (gt b i)=0
   ·simp[hz]
    (with_reducible repeat' first|refine Xk ?_<;>try simp|refine Xs ?_ ?_<;>intro h<;>(try intro h')<;>(try simp[h])<;>try omega|refine Xg ?_|omega)
    refine LJ.e (i+1) ?_
    refine qx ?_
    rw[gx h0 hi,gx h0 hj,h2,u3.1 hz]
   ·simp[hz]
    rw[e,lQ h0 hi,lQ h0 hj,jC,if_neg (fun h=>hz (u3.2 h))]
  ·simp[hi,hj]
   (with_reducible repeat' first|refine Xk ?_<;>try simp|refine Xs ?_ ?_<;>intro h<;>(try intro h')<;>(try simp[h])<;>try omega|refine Xg ?_|omega)
   have h5:jK ((a.drop i.toNat).length) ((b.drop i.toNat).length)=1:=by
    simp only[bw,jK]
    rw[if_neg (by omega),if_pos (by omega)]
   rw[e,L4 (by simp only[bw];omega),h5]
 ·simp[hi]
  (with_reducible repeat' first|refine Xk ?_<;>try simp|refine Xs ?_ ?_<;>intro h<;>(try intro h')<;>(try simp[h])<;>try omega|refine Xg ?_|omega)
  all_goals
   rw[e,L4 (by simp only[bw];omega)]
   simp only[bw,jK]
   (repeat' split)<;>omega
def f129(l:List Int)(hl:l.length<2 ^ 40):Wf T 129 [dI l] [] (Is (.i (mf l))):=by
 refine Yg D3 ?_
 simp[D3]
 refine eN.e (0:Int) (fun i=>[(3,.i 0),(6,dI l),(7,.i l.length),(8,.i i)]) (fun i=>[]) (fun i=>0≤i∧i≤l.length∧mf l=mf (l.drop i.toNat)) (fun i=>l.length-i.toNat) ?_ ?_
 ·simp
 rintro i ⟨h0,h1,h2⟩
 by_cases hi:i<l.length
 ·rw[lQ h0 hi]at h2
  by_cases hz:gt l i=0
  ·simp[hi,hz]
   (with_reducible repeat' first|refine Xk ?_<;>try simp|refine Xs ?_ ?_<;>intro h<;>(try intro h')<;>(try simp[h])<;>try omega|refine Xg ?_|omega)
   refine LJ.e (i+1) ?_
   refine eY ?_
   rw[h2]
   simp only[mf,hz]
   rw[if_neg (by simp),show(i+1).toNat=i.toNat+1 by omega]
  ·simp[hi,hz]
   (with_reducible repeat' first|refine Xk ?_<;>try simp|refine Xs ?_ ?_<;>intro h<;>(try intro h')<;>(try simp[h])<;>try omega|refine Xg ?_|omega)
   rw[h2]
   simp[mf,hz]
 ·simp[hi]
  rw[h2,dt (by omega)]
  rfl
def f88(p q:Pos)(hp:Small p)(hq:Small q):Wf T 88 [dP p,dP q] [] (Is (.i (gC p q))):=by
 refine Yg Ge ?_
 simp[Ge]
 refine Yt (f130 _ _ hp.1 hq.1) ?_
 simp
 refine Yt (f130 _ _ hp.2.1 hq.2.1) ?_
 simp
 refine Yt (f130 _ _ hp.2.2 hq.2.2) ?_
 simp
 refine Yt (f131 _ _) ?_
 simp
 refine Yt (f131 _ _) ?_
 simp
 refine gQ.r rfl rfl (f129 [jC p.cs q.cs,jC p.h0 q.h0,jC p.h1 q.h1,jK p.ff q.ff,jK p.side q.side] (by simp)) (by simp;exact UX _ rfl rfl) (by simp[flat]) (by simp) ?_
 simp
 rfl
def f100(l:List Pos)(hl:l.length<2 ^ 40)(hs:∀ p∈l,Small p)(v7:jM l):Wf T 100 [e7 l] [] (Is (.b true)):=by
 refine Yg DN ?_
 simp[DN]
 (with_reducible repeat' first|refine Xk ?_<;>try simp|refine Xs ?_ ?_<;>intro h<;>(try intro h')<;>(try simp[h])<;>try omega|refine Xg ?_|omega)
 refine eN.e (0:Int) (fun i=>[(0,e7 l),(6,.i (l.length-1)),(7,.i i)]) (fun i=>[]) (fun i=>0≤i) (fun i=>l.length-i.toNat) ?_ ?_
 ·simp
 rintro i h0
 by_cases hi:i<l.length-1
 ·simp[hi]
  (with_reducible repeat' first|refine Xk ?_<;>try simp|refine Xs ?_ ?_<;>intro h<;>(try intro h')<;>(try simp[h])<;>try omega|refine Xg ?_|omega)
  refine Yt (f88 _ _ (hs _ (eQ h0 (by omega))) (hs _ (eQ (n:=i+1) (by omega) (by omega)))) ?_
  simp
  have:=v7 (i+1) (by omega) (by omega)
  rw[Int.add_sub_cancel]at this
  simp[show ¬ 0≤gC (gt l i) (gt l (i+1))by omega]
  (with_reducible repeat' first|refine Xk ?_<;>try simp|refine Xs ?_ ?_<;>intro h<;>(try intro h')<;>(try simp[h])<;>try omega|refine Xg ?_|omega)
  refine LJ.e (i+1) ?_
  exact oO
 ·simp[hi]
def f96(g:eH)(hg:fe g)(p:Pos)(hp:fO g p):Wf T 96 [dP p,.eW g.cells] [] (Is (.b false)):=by
 refine Yg Gl ?_
 simp[Gl]
 refine Yc (f97 g hg p hp) ?_
 simp
def f147(g:eH)(hg:fe g)(l:List Pos)(hl:∀ p∈l,fO g p)(h9:l.length<2 ^ 40):Wf T 147 [e7 l,.fn (.func 96) [] [.eW g.cells]] [] (Is (.i (-1))):=by
 refine Yg Em ?_
 simp[Em]
 refine eN.e (0:Int) (fun y=>[(0,e7 l),(1,.fn (.func 96) [] [.eW g.cells]),(7,.i l.length),(8,.i y)]) (fun y=>[]) (fun y=>0≤y∧y≤l.length) (fun y=>(l.length-y).toNat) ?_ ?_
 ·simp
 rintro i ⟨i0,i1⟩
 by_cases hi:i<l.length
 ·simp[hi]
  (with_reducible repeat' first|refine Xk ?_<;>try simp|refine Xs ?_ ?_<;>intro h<;>(try intro h')<;>(try simp[h])<;>try omega|refine Xg ?_|omega)
  refine Yc (f96 g hg (gt l i) (hl _ (eQ i0 hi))) ?_
  simp
  (with_reducible repeat' first|refine Xk ?_<;>try simp|refine Xs ?_ ?_<;>intro h<;>(try intro h')<;>(try simp[h])<;>try omega|refine Xg ?_|omega)
  refine LJ.e (i+1) ?_
  exact l4
 ·simp[hi]
def f99(g:eH)(hg:fe g)(l:List Pos)(hl:∀ p∈l,fO g p)(h9:l.length<2 ^ 40):Wf T 99 [e7 l,.fn (.func 96) [] [.eW g.cells]] [] (Is (.b false)):=by
 refine Yg Gp ?_
 simp[Gp]
 refine Yc (f147 g hg l hl h9) ?_
 simp
def nL(l:List eU):D:=dN 8 eU.cells l
@[simp] theorem UA(l:List eU):closed (nL l)=true:=xb (fun a=>by simp[eU.cells,fu]) l
theorem f132(l:List Int)(h:0<l.length)(h2:l.length<2 ^ 40):Wf T 132 [dI l] [] (fun d H=>d = .eF 0 1 1 0 l.length∧H = [.row 3 1 (cl f1 l)]):=by
 refine Yg D7 ?_
 simp[D7]
 refine oA.i (a:=.b false) (by cases l with|nil=>exact absurd h (by simp)|cons a r=>rfl) ?_
 simp
 (with_reducible repeat' first|refine Xk ?_<;>try simp|refine Xs ?_ ?_<;>intro h<;>(try intro h')<;>(try simp[h])<;>try omega|refine Xg ?_|omega)
def f91(s:eU)(hs:Small s.p)(h0:0<s.p.cs.length∧0<s.p.h0.length∧0<s.p.h1.length):Wf T 91 [.agg s.cells] [] (fun d H=>d = .agg [.eF 0 1 1 0 s.p.cs.length,.eF 1 1 1 0 s.p.h0.length,.eF 2 1 1 0 s.p.h1.length,.i s.p.ff,.i s.p.side,.i s.kind,.i s.cur,.b s.iL]∧H = [.row 3 1 (cl f1 s.p.cs),.row 3 1 (cl f1 s.p.h0),.row 3 1 (cl f1 s.p.h1)]):=by
 refine Yg Gg ?_
 simp[Gg,eU.cells]
 refine Yn (f132 s.p.cs h0.1 hs.1) ?_
 simp
 refine vu.n rfl rfl (f132 s.p.h0 h0.2.1 hs.2.1) (by simp) (by simp) ?_
 simp
 refine vu.n rfl rfl (f132 s.p.h1 h0.2.2 hs.2.2) (by simp) (by simp) ?_
 simp
def f241(s:eU)(b:Bool):Wf T 241 [.agg s.cells,.b b] [] (Is (nL (if b then [s]else []))):=by
 refine Yg Fa ?_
 simp[Fa,eU.cells]
 cases b
 ·simp
  rfl
 ·simp
  rfl
def f243(s:eU)(h:0≤s.cur∧s.cur<s.p.cs.length)(hs:Small s.p):Wf T 243 [.agg s.cells] [] (Is (.tup [.i (fm (gt s.p.cs s.cur)),.i (iU (gt s.p.cs s.cur))])):=by
 refine Yg Fc ?_
 simp[Fc,eU.cells]
 (with_reducible repeat' first|refine Xk ?_<;>try simp|refine Xs ?_ ?_<;>intro h<;>(try intro h')<;>(try simp[h])<;>try omega|refine Xg ?_|omega)
 refine Yc (f84 _) ?_
 simp
def f199(g:eH)(hg:fe g)(s:eU)(hs:jk g s)(n:Int):Wf T 199 [.agg s.cells,dG g,.i n] [] (Is (nL (gY g s (1,n)))):=by
 refine Yg ET ?_
 simp[ET,eU.cells]
 refine Yc (f240 g hg.iw s.p.side n s.cur) ?_
 simp
 refine fg.c rfl rfl (f241 { s with cur:=kZ g s.p.side n s.cur } (decide (0≤kZ g s.p.side n s.cur))) (by simp[eU.cells]) (by simp) ?_
 simp[gY]
def f201(g:eH)(hg:fe g)(s:eU)(hs:jk g s)(n:Int):Wf T 201 [.agg s.cells,dG g,.i n] [] (Is (nL (gY g s (3,n)))):=by
 have gH:=hs.p.size
 have nN:=hs.cur
 refine Yg EV ?_
 simp[EV,eU.cells]
 (with_reducible repeat' first|refine Xk ?_<;>try simp|refine Xs ?_ ?_<;>intro h<;>(try intro h')<;>(try simp[h])<;>try omega|refine Xg ?_|omega)
 refine gQ.c rfl rfl (f241 s (decide (gt s.p.cs s.cur=0))) (by simp[eU.cells]) (by simp) ?_
 simp[gY]
def f202(g:eH)(hg:fe g)(s:eU)(hs:jk g s)(n:Int):Wf T 202 [.agg s.cells,dG g,.i n] [] (Is (nL (gY g s (4,n)))):=by
 have gH:=hs.p.size
 have nN:=hs.cur
 have ik:=hs.p.side
 refine Yg EW ?_
 simp[EW,eU.cells]
 refine fg.c rfl rfl (f243 s (by omega) (hs.p.small hg)) (by simp[eU.cells]) (by simp) ?_
 simp
 (with_reducible repeat' first|refine Xk ?_<;>try simp|refine Xs ?_ ?_<;>intro h<;>(try intro h')<;>(try simp[h])<;>try omega|refine Xg ?_|omega)
 refine fg.c rfl rfl (f241 s (decide (iU (gt s.p.cs s.cur)=1-s.p.side))) (by simp[eU.cells]) (by simp) ?_
 simp[gY]
def f203(g:eH)(hg:fe g)(s:eU)(hs:jk g s)(n:Int):Wf T 203 [.agg s.cells,dG g,.i n] [] (Is (nL (gY g s (5,n)))):=by
 have gH:=hs.p.size
 have nN:=hs.cur
 refine Yg EX ?_
 simp[EX,eU.cells]
 refine fg.c rfl rfl (f243 s (by omega) (hs.p.small hg)) (by simp[eU.cells]) (by simp) ?_
 simp
 refine fg.c rfl rfl (f241 s (decide (iU (gt s.p.cs s.cur)=s.p.side))) (by simp[eU.cells]) (by simp) ?_
 simp[gY]
def f206(g:eH)(s:eU)(n:Int):Wf T 206 [.agg s.cells,dG g,.i n] [] (Is (nL (gY g s (8,n)))):=by
 refine Yg EZ ?_
 simp[EZ,eU.cells]
 rfl
def f207(g:eH)(hg:fe g)(s:eU)(hs:jk g s)(n:Int)(hn:0≤n∧n<g.ff):Wf T 207 [.agg s.cells,dG g,.i n] [] (Is (nL (gY g s (9,n)))):=by
 have hr:=hs.p.ff
 have rH:=hg.ff
 have h5:=Af rH.1
 have ha:=Sz (r:=s.p.ff) (n:=n) hr.1 (by omega) hn.1 (by omega)
 refine Yg E0 ?_
 simp[E0,eU.cells]
 (with_reducible repeat' first|refine Xk ?_<;>try simp|refine Xs ?_ ?_<;>intro h<;>(try intro h')<;>(try simp[h])<;>try omega|refine Xg ?_|omega)
 refine gQ.c rfl rfl (f241 s (decide (bits BinOp.and IntKind.i64 (tV IntKind.i64 s.p.ff n) 1=1))) (by simp[eU.cells]) (by simp) ?_
 simp[gY,ha]
def f208(g:eH)(hg:fe g)(s:eU)(hs:jk g s)(n:Int)(hn:0≤n∧n<g.ff):Wf T 208 [.agg s.cells,dG g,.i n] [] (Is (nL (gY g s (10,n)))):=by
 have hr:=hs.p.ff
 have rH:=hg.ff
 have h5:=Af rH.1
 have ha:=SA (r:=s.p.ff) (n:=n) hr.1 (by omega) hn.1 (by omega)
 refine Yg E3 ?_
 simp[E3,eU.cells,ha]
 (with_reducible repeat' first|refine Xk ?_<;>try simp[ha]|refine Xs ?_ ?_<;>intro h<;>(try intro h')<;>(try simp[h,ha])<;>try omega|refine Xg ?_|omega)
 rfl
def f205(g:eH)(hg:fe g)(s:eU)(hs:jk g s)(n:Int):Wf T 205 [.agg s.cells,dG g,.i n] [] (Is (nL (gY g s (7,n)))):=by
 have gH:=hs.p.size
 have nN:=hs.cur
 have jB:=hs.p.small hg
 have zA:=hg.iw.size
 have hk:=hg.kinds
 have l0:=hs.p.h0.len
 have l1:=hs.p.h1.len
 have ht:=hg.iw.to s.p.side n s.cur
 have e:gY g s (7,n)=q' g s n:=by simp[gY]
 rw[e]
 refine Yg EY ?_
 simp[EY,eU.cells]
 refine Yc (f240 g hg.iw s.p.side n s.cur) ?_
 simp
 (with_reducible repeat' first|refine Xk ?_<;>try simp|refine Xs ?_ ?_<;>intro h<;>(try intro h')<;>(try simp[h])<;>try omega|refine Xg ?_|omega)
 ·rw[q',if_pos (by simp_all)];rfl
 ·rw[q',if_pos (by simp_all)];rfl
 ·have q0:=gN (l:=s.p.cs) (n:=kZ g s.p.side n s.cur) (v:=gt s.p.cs s.cur) (by omega) (by omega)
  have q1:=gN (l:=pt s.p.cs (kZ g s.p.side n s.cur) (gt s.p.cs s.cur)) (n:=s.cur) (v:=0) nN.1 (by omega)
  refine Yn (f91 s jB (by omega)) ?_
  simp
  (with_reducible repeat' first|refine Xk ?_<;>try simp[q0,q1]|refine Xs ?_ ?_<;>intro h<;>(try intro h')<;>(try simp[h,q0,q1])<;>try omega|refine Xg ?_|omega)
  simp[q', *]
  rfl
 ·rw[q',if_pos (by simp_all)];rfl
def f204(g:eH)(hg:fe g)(s:eU)(hs:jk g s)(n:Int):Wf T 204 [.agg s.cells,dG g,.i n] [] (Is (nL (gY g s (6,n)))):=by
 have gH:=hs.p.size
 have nN:=hs.cur
 have jB:=hs.p.small hg
 have zA:=hg.iw.size
 have oH:=hg.kinds
 have l0:=hs.p.h0.len
 have l1:=hs.p.h1.len
 have im:=hs.p.cs _ (eQ nN.1 (by omega))
 have ik:=hs.p.side
 have e:gY g s (6,n)=qC g s:=by simp[gY]
 rw[e]
 refine Yz AQ (gL 52 [2,3,4] AQ.body) ?_
 simp[AQ,gL,jg,lD,lH,lS,ku,eU.cells]
 refine fg.c rfl rfl (f243 s (by omega) jB) (by simp[eU.cells]) (by simp) ?_
 simp
 by_cases hx:iU (gt s.p.cs s.cur)=1-s.p.side
 ·have B5:0≤fm (gt s.p.cs s.cur):=by
   unfold iU at hx;unfold fm
   split at hx<;>rename_i h5
   ·rw[if_pos h5];omega
   ·omega
  have hm:fm (gt s.p.cs s.cur)<g.kinds.length:=u0 im.2 oH.1
  have Lx:s.p.side=0∨s.p.side=1:=by omega
  have q0:=gN (l:=s.p.cs) (n:=s.cur) (v:=0) nN.1 (by omega)
  simp[hx]
  (with_reducible repeat' first|refine Xk ?_<;>try simp|refine Xs ?_ ?_<;>intro h<;>(try intro h')<;>(try simp[h])<;>try omega|refine Xg ?_|omega)
  refine Yn (f91 s jB (by omega)) ?_
  simp
  (with_reducible repeat' first|refine Xk ?_<;>try simp[q0]|refine Xs ?_ ?_<;>intro h<;>(try intro h')<;>(try simp[h,q0])<;>try omega|refine Xg ?_|omega)
  ·have vV:=h
   rcases Lx with e|e
   ·have ha:=hs.p.h0.at_ _ (by omega) (show fm (gt s.p.cs s.cur)<s.p.h0.length by omega)
    have q1:=xv (l:=s.p.h0) (n:=fm (gt s.p.cs s.cur)) (v:=gt s.p.h0 (fm (gt s.p.cs s.cur))+1) (by omega) (by omega)
    have q2:=gN (l:=s.p.h0) (n:=fm (gt s.p.cs s.cur)) (v:=gt s.p.h0 (fm (gt s.p.cs s.cur))+1) (by omega) (by omega)
    simp[e,q0,q1,q2]
    (with_reducible repeat' first|refine Xk ?_<;>try simp[q0,q1,q2]|refine Xs ?_ ?_<;>intro h<;>(try intro h')<;>(try simp[h,q0,q1,q2])<;>try omega|refine Xg ?_|omega)
    refine gQ.c rfl rfl (f241 { p:={ s.p with cs:=pt s.p.cs s.cur 0,h0:=pt s.p.h0 (fm (gt s.p.cs s.cur)) (gt s.p.h0 (fm (gt s.p.cs s.cur))+1),side:=0 },kind:=s.kind,cur:=s.cur,iL:=true } (decide (gt s.p.h0 (fm (gt s.p.cs s.cur))+1≤8))) (by simp[eU.cells]) (by simp) ?_
    simp[qC,hx,vV,Pos.hand,Pos.lN,e]
    done
   ·have ha:=hs.p.h1.at_ _ (by omega) (show fm (gt s.p.cs s.cur)<s.p.h1.length by omega)
    have q1:=xv (l:=s.p.h1) (n:=fm (gt s.p.cs s.cur)) (v:=gt s.p.h1 (fm (gt s.p.cs s.cur))+1) (by omega) (by omega)
    have q2:=gN (l:=s.p.h1) (n:=fm (gt s.p.cs s.cur)) (v:=gt s.p.h1 (fm (gt s.p.cs s.cur))+1) (by omega) (by omega)
    simp[e,q0,q1,q2]
    (with_reducible repeat' first|refine Xk ?_<;>try simp[q0,q1,q2]|refine Xs ?_ ?_<;>intro h<;>(try intro h')<;>(try simp[h,q0,q1,q2])<;>try omega|refine Xg ?_|omega)
    refine gQ.c rfl rfl (f241 { p:={ s.p with cs:=pt s.p.cs s.cur 0,h1:=pt s.p.h1 (fm (gt s.p.cs s.cur)) (gt s.p.h1 (fm (gt s.p.cs s.cur))+1),side:=1 },kind:=s.kind,cur:=s.cur,iL:=true } (decide (gt s.p.h1 (fm (gt s.p.cs s.cur))+1≤8))) (by simp[eU.cells]) (by simp) ?_
    simp[qC,hx,vV,Pos.hand,Pos.lN,e]
    done
  ·simp[qC,hx,h,q0]
   rfl
 ·simp[hx]
  (with_reducible repeat' first|refine Xk ?_<;>try simp|refine Xs ?_ ?_<;>intro h<;>(try intro h')<;>(try simp[h])<;>try omega|refine Xg ?_|omega)
  rw[qC,if_pos hx];rfl
def f259(g:eH)(s d c:Int):Wf T 259 [g.iw,.i s,.i d,.i c] [] (Is (.fn (.func 265) [] [.eW [.i g.size,.sl 1 (g.next.map fI),dI g.gU],.eW [.i s],.eW [.i d],.eW [.i c]])):=by
 refine Yg Fo ?_
 simp[Fo]
def f266(l:List Int)(n:Int)(hl:l.length<2 ^ 40):Wf T 266 [dI l,.i n] [] (Ey (fun r:Int=>.i r) fun r=>0≤r↔n∈l):=by
 refine Yg yR ?_
 simp[yR]
 refine eN.e (0:Int) (fun y=>[(0,dI l),(1,.i n),(7,.i l.length),(8,.i y)]) (fun y=>[]) (fun y=>0≤y∧y≤l.length∧n ∉ l.take y.toNat) (fun y=>(l.length-y).toNat) ?_ ?_
 ·simp
 rintro i ⟨i0,i1,i2⟩
 by_cases hi:i<l.length
 ·simp[hi]
  (with_reducible repeat' first|refine Xk ?_<;>try simp|refine Xs ?_ ?_<;>intro h<;>(try intro h')<;>(try simp[h])<;>try omega|refine Xg ?_|omega)
  ·exact Ey.i i rfl rfl ⟨fun _=>by have:=eQ i0 hi;simp_all,fun _=>i0⟩
  ·refine LJ.e (i+1) ?_
   refine eY ?_
   rw[gx i0 hi]
   simp[i2]
   omega
 ·simp[hi]
  rw[jh (by omega)]at i2
  exact Ey.i (-1) rfl rfl ⟨fun h=>by omega,fun h=>absurd h i2⟩
def f260(l:List Int)(n:Int)(hl:l.length<2 ^ 40):Wf T 260 [dI l,.i n] [] (Is (.b (decide (n∈l)))):=by
 refine Yg yQ ?_
 simp[yQ]
 refine Yq (f266 l n hl) fun r hr=>?_
 simp
 simp[hr]
def VG(n:Int):Wf T 266 [.eG,.i n] [] (Is (.i (-1))):=by
 refine Yg yR ?_
 simp[yR]
 refine eN.un ?_
 refine iP.u ?_
 simp
def VF(n:Int):Wf T 260 [.eG,.i n] [] (Is (.b false)):=by
 refine Yg yQ ?_
 simp[yQ]
 refine Yc (VG n) ?_
 simp
def f265(g:eH)(hg:mX g)(s d c:Int):Wf T 265 [.ic 4,.eW [.i g.size,.sl 1 (g.next.map fI),dI g.gU],.eW [.i s],.eW [.i d],.eW [.i c]]
  [.row 37 0 [.i g.size,.sl 1 (g.next.map fI),dI g.gU],.row 3 0 [.i c],.row 33 0 [.eG],.jZ,.gu 15488 [(7,.ptr 1 0 0),(9,.ptr 2 0 0)] .ready]
  (fun _ H'=>∃ st,(st = .ready∨st = .vH 0)∧H' = [.row 37 0 [.i g.size,.sl 1 (g.next.map fI),dI g.gU],.row 3 0 [.i c],.row 33 0 [if kd g s d c = []then .eG else .eF 5 ((kd g s d c).length-1) 1 0 (kd g s d c).length],.jZ,.gu 15488 [(7,.ptr 1 0 0),(9,.ptr 2 0 0)] st]++(if kd g s d c = []then []else [.row 3 ((kd g s d c).length-1) (cl f1 (kd g s d c))])):=by
 have hb:=hg.size
 refine Yg Fs ?_
 simp[Fs]
 refine Yr (f240 g hg s d c) ?_
 simp
 refine eN.e ((0,kZ g s d c,[]):Nat×Int×List Int) (fun x=>[(0,.ic 4),(1,.eW [.i g.size,.sl 1 (g.next.map fI),dI g.gU]),(2,.eW [.i s]),(3,.eW [.i d]),(6,.i x.2.1)]) (fun x=>[.row 37 0 [.i g.size,.sl 1 (g.next.map fI),dI g.gU],.row 3 0 [.i c],.row 33 0 [if x.2.2 = []then .eG else .eF 5 (x.2.2.length-1) 1 0 x.2.2.length],.jZ,.gu 15488 [(7,.ptr 1 0 0),(9,.ptr 2 0 0)] .ready]++(if x.2.2 = []then []else [.row 3 (x.2.2.length-1) (cl f1 x.2.2)])) (fun x=>x.1=x.2.2.length∧x.2.1<g.size∧x.2.2.Nodup∧(∀ y∈x.2.2,0≤y∧y<g.size)∧kd g s d c=qV g s d c (10-x.1) x.2.1 x.2.2) (fun x=>10-x.1) ?_ ?_
 ·have:=hg.to s d c
  simp[kd];omega
 rintro⟨m,x,out⟩ ⟨h0,h1,h2,h3,h4⟩
 dsimp only at h0 h1 h2 h3 h4 ⊢
 have hm:out.length≤9:=wv 9 out h2 (fun y hy=>by have:=h3 y hy;omega)
 have e:=h4
 rw[show 10-m=(9-m)+1 by omega,qV]at e
 have kx:=hg.to s d x
 by_cases ho:out = []
 ·subst ho
  by_cases hx:0≤x
  ·simp[hx]
   refine oU.r (rf:=15488) (env0:=[(7,.ptr 1 0 0),(9,.ptr 2 0 0)]) (Rd:=s7) (by simp) rfl rfl s7.a s7.b (mE rfl) (mE rfl) ?_
   simp[s7]
   by_cases hc:x=c
   ·have e3:kd g s d c = []:=by rw[e,if_neg (fun h=>h.2.1 hc)]
    simp[hc,e3]
   ·have e2:kd g s d c=qV g s d c (9-m) (kZ g s d x) [x]:=by rw[e,if_pos ⟨hx,hc,by simp⟩];rfl
    simp[hc]
    refine Yc (VF x) ?_
    simp
    (with_reducible repeat' first|refine Xk ?_<;>try simp|refine Xs ?_ ?_<;>intro h<;>(try intro h')<;>(try simp[h])<;>try omega|refine Xg ?_|omega)
    refine Yr (f240 g hg s d x) ?_
    simp
    refine LJ.i (m+1,kZ g s d x,[x]) (by first|rfl|simp[ix]) (by first|rfl|simp[ix]) rfl rfl ?_
    dsimp only
    refine⟨by simp at h0;omega,by simp at h0;simp;omega,kx.2,by simp,by simp;omega,?_⟩
    rw[e2];congr 1;omega
  ·have e3:kd g s d c = []:=by rw[e,if_neg (fun h=>hx h.1)]
   simp[hx,e3]
 ·simp only[if_neg ho,bx,bt]
  by_cases hx:0≤x
  ·simp[hx]
   refine oU.r (rf:=15488) (env0:=[(7,.ptr 1 0 0),(9,.ptr 2 0 0)]) (Rd:=s7) (by simp) rfl rfl s7.a s7.b (mE rfl) (mE rfl) ?_
   simp[s7]
   by_cases hc:x=c
   ·have e3:kd g s d c=out:=by rw[e,if_neg (fun h=>h.2.1 hc)]
    simp[hc,e3,ho]
   ·simp[hc]
    refine Yr (f260 out x (by omega)) ?_
    simp
    refine X2.z hc ?_
    simp
    by_cases ft:x∈out
    ·have e3:kd g s d c=out:=by rw[e,if_neg (fun h=>h.2.2 ft)]
     simp[ft,e3,ho]
    ·have e2:kd g s d c=qV g s d c (9-m) (kZ g s d x) (out ++ [x]):=by rw[e,if_pos ⟨hx,hc,ft⟩]
     have hl:0<out.length:=az.2 ho
     simp[ft]
     (with_reducible repeat' first|refine Xk ?_<;>try simp|refine Xs ?_ ?_<;>intro h<;>(try intro h')<;>(try simp[h])<;>try omega|refine Xg ?_|omega)
     refine Yr (f240 g hg s d x) ?_
     simp
     refine LJ.i (m+1,kZ g s d x,out ++ [x]) (by first|rfl|simp[show out.length-1+1=out.length by omega]) (by first|rfl|simp[show out.length-1+1=out.length by omega]) rfl rfl ?_
     dsimp only
     refine⟨by omega,by simp;omega,kx.2,?_,fun y hy=>?_,?_⟩
     ·rw[aZ];exact⟨h2,by simp,fun a ha b hb=>by rw[List.mem_singleton.1 hb];rintro rfl;exact ft ha⟩
     ·rcases List.mem_append.1 hy with hy|hy
      ·exact h3 y hy
      ·rw[List.mem_singleton.1 hy];omega
     ·rw[e2];congr 1;omega
  ·have e3:kd g s d c=out:=by rw[e,if_neg (fun h=>hx h.1)]
   simp[hx,e3,ho]
def f242(g:eH)(hg:mX g)(s d c:Int):Wf T 242 [g.iw,.i s,.i d,.i c] [] (Is (dN 1 f1 (kd g s d c))):=by
 refine Yg Fb ?_
 simp[Fb]
 refine Yc (f259 g s d c) ?_
 simp
 refine rp.r (f:=265) (first:=[]) (cap:=[.eW [.i g.size,.sl 1 (g.next.map fI),dI g.gU],.eW [.i s],.eW [.i d],.eW [.i c]]) rfl rfl rfl rfl ?_
 simp
 refine Wf.mono (f265 g hg s d c) ?_
 rintro _ H' ⟨st,eX,rfl⟩
 refine⟨[(7,.ptr 1 0 0),(9,.ptr 2 0 0)],st,by simp,?_⟩
 by_cases h:kd g s d c = []
 ·rcases eX with rfl|rfl
  ·simp[h]
   rfl
  ·simp[h]
   rfl
 ·have e:dI (kd g s d c)=dN 1 f1 (kd g s d c):=by
   revert h
   cases kd g s d c with
   | nil=>intro h;exact absurd rfl h
   | cons a r=>intro _;rfl
  rcases eX with rfl|rfl
  ·simp[h,e]
  ·simp[h,e]
@[simp] theorem akN(l:List Int):closed (dN 1 f1 l)=true:=xb (fun a=>by simp[fu]) l
theorem J5{l:List eU}(h:l≠[]):jv l=nL l:=by
 cases l with
 | nil=>exact absurd rfl h
 | cons a r=>rfl
def f200(g:eH)(hg:fe g)(s:eU)(hs:jk g s)(n:Int):Wf T 200 [.agg s.cells,dG g,.i n] [] (Is (nL (gY g s (2,n)))):=by
 have gH:=hs.p.size
 have zA:=hg.iw.size
 have e:gY g s (2,n)=oM s (kd g s.p.side n s.cur):=by simp[gY]
 have ft:∀ y∈kd g s.p.side n s.cur,0≤y∧y<g.size:=fun y hy=>LZ hg.iw hy
 have hlen:(kd g s.p.side n s.cur).length≤10:=L3
 rw[e]
 refine Yg EU ?_
 simp[EU,eU.cells]
 refine Yc (f242 g hg.iw s.p.side n s.cur) ?_
 simp
 generalize kd g s.p.side n s.cur=l at *
 refine eN.e ((0,[]):Int×List eU) (fun y=>[(3,.ptr 0 0 0),(7,if y.1=0 then .eG else .eF 2 (y.2.length-1) 8 0 y.2.length),(19,dN 1 f1 l),(20,.i l.length),(21,.i y.1)]) (fun y=>.row 171 0 s.cells :: .row 41 0 g.cells::(if y.1=0 then []else [.row 171 (y.2.length-1) (cl eU.cells y.2)])) (fun y=>0≤y.1∧y.1≤l.length∧y.2.length=y.1.toNat∧oM s l=y.2++oM s (l.drop y.1.toNat)) (fun y=>(l.length-y.1).toNat) ?_ ?_
 ·simp
 rintro⟨i,st⟩ ⟨i0,i1,i2,i3⟩
 dsimp only at i0 i1 i2 i3 ⊢
 by_cases hi:i<l.length
 ·have hc:=ft _ (eQ i0 hi)
  rw[lQ i0 hi,oM]at i3
  by_cases hz:i=0
  ·have:st = []:=aB.1 (by omega)
   subst hz;subst this
   simp[hi,eU.cells]
   (with_reducible repeat' first|refine Xk ?_<;>try simp|refine Xs ?_ ?_<;>intro h<;>(try intro h')<;>(try simp[h])<;>try omega|refine Xg ?_|omega)
   ·refine LJ.i (1,[{ s with cur:=gt l 0 }]) (by first|rfl|simp[ix,eU.cells]) (by first|rfl|simp[ix,eU.cells]) rfl rfl ?_
    refine eY ⟨rfl,?_⟩
    rw[i3,if_pos h];rfl
   ·rw[i3,if_neg h];rfl
  ·have hl:0<st.length:=by omega
   rw[if_neg hz,if_neg hz]
   simp[hi,eU.cells]
   (with_reducible repeat' first|refine Xk ?_<;>try simp|refine Xs ?_ ?_<;>intro h<;>(try intro h')<;>(try simp[h])<;>try omega|refine Xg ?_|omega)
   ·refine LJ.i (i+1,st ++ [{ s with cur:=gt l i }]) (by first|rfl|simp[show ¬ (i+1=0)by omega,show st.length-1+1=st.length by omega,eU.cells]) (by first|rfl|simp[show ¬ (i+1=0)by omega,show st.length-1+1=st.length by omega,eU.cells]) rfl rfl ?_
    refine⟨by dsimp only;omega,by dsimp only;omega,by dsimp only;omega,by simp;omega,?_⟩
    rw[i3,if_pos h,show(i+1).toNat=i.toNat+1 by omega];simp
   ·rw[i3,if_neg h,← J5 (by simp)]
    simp[jv,eU.cells]
 ·rw[dt (by omega),oM,aw]at i3
  by_cases hz:i=0
  ·have:st = []:=aB.1 (by omega)
   subst hz;subst this
   simp[show ¬ 0<l.length by omega,eU.cells]
   rw[i3];rfl
  ·rw[if_neg hz,if_neg hz]
   simp[hi,eU.cells]
   rw[i3,J5 (by intro h;rw[h]at i2;simp at i2;omega)]
def f164(g:eH)(hg:fe g)(s:eU)(hs:jk g s)(x:eO)(hx:A7 g x):Wf T 164 [dG g,.agg s.cells,.agg [.i x.1,.i x.2]] [] (Is (nL (gY g s x))):=by
 obtain⟨k,n⟩:=x
 have lJ:=hx.ok
 dsimp only at lJ ⊢
 rcases(show k=1∨k=2∨k=3∨k=4∨k=5∨k=6∨k=7∨k=8∨k=9∨k=10 by omega)with rfl|rfl|rfl|rfl|rfl|rfl|rfl|rfl|rfl|rfl
 all_goals
  refine Yg EB ?_
  simp[EB,eU.cells]
 ·refine gQ.c rfl rfl (f199 g hg s hs n) (by simp) (by simp) ?_
  simp
 ·refine gQ.c rfl rfl (f200 g hg s hs n) (by simp) (by simp) ?_
  simp
 ·refine gQ.c rfl rfl (f201 g hg s hs n) (by simp) (by simp) ?_
  simp
 ·refine gQ.c rfl rfl (f202 g hg s hs n) (by simp) (by simp) ?_
  simp
 ·refine gQ.c rfl rfl (f203 g hg s hs n) (by simp) (by simp) ?_
  simp
 ·refine gQ.c rfl rfl (f204 g hg s hs n) (by simp) (by simp) ?_
  simp
 ·refine gQ.c rfl rfl (f205 g hg s hs n) (by simp) (by simp) ?_
  simp
 ·refine gQ.c rfl rfl (f206 g s n) (by simp) (by simp) ?_
  simp
 ·refine gQ.c rfl rfl (f207 g hg s hs n (by omega)) (by simp) (by simp) ?_
  simp
 ·refine gQ.c rfl rfl (f208 g hg s hs n (by omega)) (by simp) (by simp) ?_
  simp
