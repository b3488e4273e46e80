/- Part 19 of TableHurry. -/
import Derived.Test.YtnaefnajkaohgaaGreatDoorG18
import Derived.Test.YtnaefnajkaohgaaGreatDoorG16
set_option linter.all false
namespace Go.Proofs.YtnaefnajkaohgaaGreatDoor
open Go Go.AL Classical
set_option maxRecDepth 10000
set_option maxHeartbeats 1000000
@[simp] theorem ael(n:Int)(nx:List (List Int))(tn:List Int):closed (bD n nx tn)=true:=by simp[bD]
theorem f104(w uc c:Int)(hw:0≤w∧w<256)(hh:0≤uc∧uc<256)(hc:0≤c∧c<256):Wf T 104 [.val (.int .u8 w),.val (.int .u8 uc),.val (.int .u8 c)] [] (Ey (fun x:Int×List (List Int)×List Int=>bD x.1 x.2.1 x.2.2) fun x=>kT (uJ x.1 x.2.1 x.2.2)):=by
 have w1:=jo (a:=w) (b:=3) hw.1
 have h1:=jo (a:=uc) (b:=3) hh.1
 have w2:IntKind.i64.wrap (eO w 3)=eO w 3:=mU ⟨by omega,by omega⟩
 have h2:IntKind.i64.wrap (eO uc 3)=eO uc 3:=mU ⟨by omega,by omega⟩
 have c2:IntKind.i64.wrap c=c:=mU ⟨by omega,by omega⟩
 refine Yg Ac ?_
 simp[Ac,w2,h2]
 (with_reducible repeat' first|refine Xk ?_<;>try simp|refine Xs ?_ ?_<;>intro h<;>(try intro h')<;>(try simp[h])<;>(try omega)|refine Xg ?_|omega)
 obtain⟨n,nx,tn,hg,hb⟩:=f149 (1+eO w 3) (1+eO uc 3) (by omega) (by omega)
 have hn:1≤n∧n≤9:=hb.size
 refine eU.c rfl rfl hg (by simp) (by simp[bD]) ?_
 simp[bD,c2]
 (with_reducible repeat' first|refine Xk ?_<;>try simp|refine Xs ?_ ?_<;>intro h<;>(try intro h')<;>(try simp[h])<;>(try omega)|refine Xg ?_|omega)
 ·rw[c2]
  have hr:=jo (a:=c) (b:=n) hc.1
  have qp:=bY c (show n≠0 by omega)
  have yn:=bS c (show 0<n by omega)
  refine Yv (f150 n nx tn hb (eO c n) (by omega)) fun x hx=>?_
  simp
  simp[bD]
  exact Ey.i (n,x,tn) rfl rfl hx
 ·exact Ey.i (n,nx,tn) rfl rfl hb
set_option maxRecDepth 10000
set_option maxHeartbeats 1000000
theorem gS.s{T:fH}{n:Nat}{live:List Nat}{a:IR}{s s':St}{K:gp}(hs:s=s')(h:gS T n live a s' K .mk):gS T n live a s K .mk:=by subst hs;exact h
theorem eF.s{T:fH}{live:List Nat}{a:IR}{s s':St}{K:gp}(hs:s=s')(h:eF T live a s' K .mk):eF T live a s K .mk:=by subst hs;exact h
theorem JY(l:List Int):cl fU l=l.map fun n=>D.val (.int .u8 n):=by
 rw[lL]
 induction l with
 | nil=>rfl
 | cons a r ih=>simp[← ih]
@[simp] theorem ahg{l:List Int}{k:Nat}{P:D→Prop}:oA (cl fU l)[k]? P .mk=(k<l.length∧P (.val (.int .u8 (gt l k)))):=by
 rw[JY]
 by_cases h:k<l.length
 ·simp[h,gt]
 ·simp[h]
@[simp] theorem ac4{l:List Int}{k:Nat}(h:k<(cl fU l).length):(cl fU l)[k] = .val (.int .u8 (gt l k)):=by
 have h':k<l.length:=by simpa using h
 simp[JY,gt,h']
theorem f59(g:ey)(hg:eW g)(l:List Int)(hl:l.length=18)(h:∀ n∈l,0≤n∧n<256) :
  Wf T 59 [dG g,.agg (cl fU l)] [] (Ey dP (fo g)):=by
 have hb:=hg.gH.size
 have hk:=hg.kinds
 have hr:=hg.eR
 have h4:=Ir hr.1 (by omega)
 have h5:=wC hr.1 (by omega)
 have h6:(0:Int)<2 ^ g.eR.toNat:=Int.pow_pos (by decide)
 have hu:∀ k:Nat,k<18→0≤gt l k∧gt l k<256:=fun k hk=>h _ (eH (by omega) (by omega))
 have hw:∀ k:Nat,k<18→IntKind.i64.wrap (gt l k)=gt l k:=fun k hk=>by
  have:=hu k hk
  exact mU ⟨by omega,by omega⟩
 have DI:=hw 16 (by omega)
 have SC:=hw 17 (by omega)
 have L9:=hu 16 (by omega)
 have Ma:=hu 17 (by omega)
 simp at DI SC L9 Ma
 have r16:=jo (a:=gt l 16) (b:=2 ^ g.eR.toNat) L9.1
 have m16:=bY (gt l 16) (show(2:Int) ^ g.eR.toNat≠0 by omega)
 have n16:=bS (gt l 16) h6
 have r17:=jo (a:=gt l 17) (b:=2) Ma.1
 have ID:IntKind.i64.wrap (eO (gt l 17) 2)=eO (gt l 17) 2:=mU ⟨by omega,by omega⟩
 have hR:0≤eO (gt l 16) (2 ^ g.eR.toNat)∧eO (gt l 16) (2 ^ g.eR.toNat)<2 ^ g.eR.toNat:=by omega
 have hS:0≤eO (gt l 17) 2∧eO (gt l 17) 2≤1:=by omega
 refine Yg BQ ?_
 simp[BQ,h4,hl,DI,ID]
 generalize eO (gt l 16) (2 ^ g.eR.toNat)=R at *
 generalize eO (gt l 17) 2=S at *
 (with_reducible repeat' first|refine Xk ?_<;>try simp[h4,hl,DI,ID]|refine Xs ?_ ?_<;>intro h<;>(try intro h')<;>(try simp[h,h4,hl,DI,ID])<;>(try omega)|refine Xg ?_|omega)
 refine eF.e ((0,List.replicate g.size.toNat 0):Int×List Int) (fun y=>[(2,.ptr 0 0 0),(3,.ptr 1 0 0),(4,.ptr 2 0 0),(5,.ptr 4 0 0),(6,.i y.1)]) (fun y=>[.row 41 0 g.cells,.row 30 0 (cl fU l),.row 44 0 [.U,.U,.U,.i 0,.i 0],.row 3 0 (cl f1 y.2),.row 44 0 [.eu 3 0 1 0 g.size.toNat,.U,.U,.i R,.i S]]) (fun y=>0≤y.1∧y.1≤6∧y.2.length=g.size.toNat∧∀ x∈y.2,0≤x∧x≤2*g.kinds.length) (fun y=>6-y.1.toNat) ?_ ?_
 ·simp
  (with_reducible repeat' first|refine Xk ?_<;>try simp|refine Xs ?_ ?_<;>intro h<;>(try intro h')<;>(try simp[h])<;>(try omega)|refine Xg ?_|omega)
 rintro⟨i,cs⟩ ⟨i0,i1,i2,i3⟩
 dsimp only at i0 i1 i2 i3 ⊢
 have kA:max i 0=i:=by omega
 by_cases hi:i<6
 ·have w1:IntKind.i64.wrap (gt l i)=gt l i:=by
   have:=hw i.toNat (by omega)
   rwa [b7 i0]at this
  have w2:IntKind.i64.wrap (gt l (6+i))=gt l (6+i):=by
   have:=hw (6+i.toNat) (by omega)
   rwa [show((6+i.toNat:Nat):Int)=6+i by omega]at this
  have u1:0≤gt l i:=by
   have:=hu i.toNat (by omega)
   rw[b7 i0]at this
   exact this.1
  have u2:0≤gt l (6+i):=by
   have:=hu (6+i.toNat) (by omega)
   rw[show((6+i.toNat:Nat):Int)=6+i by omega]at this
   exact this.1
  have r1:=jo (a:=gt l i) (b:=g.size+1) u1
  have e1:=bY (gt l i) (show g.size+1≠0 by omega)
  have r2:=jo (a:=gt l (6+i)) (b:=g.kinds.length) u2
  have e2:=bY (gt l (6+i)) (show(g.kinds.length:Int)≠0 by omega)
  have e3:=bS (gt l (6+i)) (show(0:Int)<g.kinds.length by omega)
  have r3:=jo (a:=i) (b:=2) i0
  simp[hl,kA,hi,w1,w2]
  have fJ:g.kinds≠[]:=by intro h;simp[h]at hk
  obtain⟨A,hA⟩:∃ A,eO (gt l i) (g.size+1)=A:=⟨_,rfl⟩
  obtain⟨B,hB⟩:∃ B,eO (gt l (6+i)) g.kinds.length=B:=⟨_,rfl⟩
  obtain⟨C,hC⟩:∃ B,eO i 2=B:=⟨_,rfl⟩
  rw[hA]at r1
  rw[hB]at r2
  rw[hC]at r3
  simp only[hA]
  (with_reducible repeat' first|refine Xk ?_<;>try simp[hl,kA,w1,w2,hA,hB,hC,fJ]|refine Xs ?_ ?_<;>intro h<;>(try intro h')<;>(try simp[h,hl,kA,w1,w2,hA,hB,hC,fJ])<;>(try omega)|refine Xg ?_|omega)
  ·(with_reducible repeat' first|refine Xk ?_<;>try simp[fJ]|refine Xs ?_ ?_<;>intro h<;>(try intro h')<;>(try simp[h,fJ])<;>(try omega)|refine Xg ?_|omega)
   refine LJ.e (i+1,pt cs A (1+2*B+C)) ?_
   dsimp only
   have hv:0≤1+2*B+C∧1+2*B+C≤2*g.kinds.length:=by omega
   refine⟨by omega,by omega,by omega,?_,?_⟩
   ·have:=ga (l:=cs) (n:=A) (v:=1+2*B+C) (by omega) (by omega)
    omega
   ·intro x hx
    rcases MR hx with rfl|hx
    ·exact hv
    ·exact i3 x hx
  ·refine LJ.e (i+1,cs) ?_
   exact⟨by omega,by omega,by omega,i2,i3⟩
 simp[hi]
 have z0:mW g (List.replicate g.kinds.length 0):=⟨by simp,fun k hk jv=>by
  have e:gt (List.replicate g.kinds.length (0:Int)) k=0:=by
   simp at jv
   have:k.toNat<g.kinds.length:=by omega
   simp[gt,this]
  rw[e];omega⟩
 refine eF.un ?_
 refine gS.s (by simp;rfl) ?_
 refine gS.u ?_
 simp
 (with_reducible repeat' first|refine Xk ?_<;>try simp|refine Xs ?_ ?_<;>intro h<;>(try intro h')<;>(try simp[h])<;>(try omega)|refine Xg ?_|omega)
 refine eF.e ((0,List.replicate g.kinds.length 0):Int×List Int) (fun y=>[(2,.ptr 0 0 0),(3,.ptr 1 0 0),(4,.ptr 2 0 0),(5,.ptr 4 0 0),(8,.i 0),(9,.i y.1)]) (fun y=>[.row 41 0 g.cells,.row 30 0 (cl fU l),.row 44 0 [.U,.U,.U,.i 0,.i 0],.row 3 0 (cl f1 cs),.row 44 0 [.eu 3 0 1 0 g.size.toNat,.eu 5 0 1 0 g.kinds.length,.U,.i R,.i S],.row 3 0 (cl f1 y.2)]) (fun y=>0≤y.1∧y.1≤g.kinds.length∧mW g y.2) (fun y=>g.kinds.length-y.1.toNat) ?_ ?_
 ·simp
  exact z0
 rintro⟨i,h0⟩ ⟨i0,i1,ih⟩
 dsimp only at i0 i1 ih ⊢
 have kA:max i 0=i:=by omega
 have rn:=ih.len
 by_cases hi:i<g.kinds.length
 ·have iO:i<2:=by omega
  have w1:IntKind.i64.wrap (gt l (12+i))=gt l (12+i):=by
   have:=hw (12+i.toNat) (by omega)
   rwa [show((12+i.toNat:Nat):Int)=12+i by omega]at this
  have u1:0≤gt l (12+i):=by
   have:=hu (12+i.toNat) (by omega)
   rw[show((12+i.toNat:Nat):Int)=12+i by omega]at this
   exact this.1
  have r1:=jo (a:=gt l (12+i)) (b:=3) u1
  by_cases jm:(gt g.kinds i).nu=true
  ·have gL:∀ v,(pt h0 i v).length=h0.length:=fun v=>ga i0 (by omega)
   have ia:i.toNat<g.kinds.length:=by omega
   simp[hl,kA,hi,iO,jm,w1,gL,rn,ia]
   (with_reducible repeat' first|refine Xk ?_<;>try simp[hl,kA,hi,iO,jm,w1,gL,rn,ia]|refine Xs ?_ ?_<;>intro h<;>(try intro h')<;>(try simp[h,hl,kA,hi,iO,jm,w1,gL,rn,ia])<;>(try omega)|refine Xg ?_|omega)
   ·refine LJ.e (i+1,pt (pt h0 i (eO (gt l (12+i)) 3)) i 8) ?_
    refine⟨by dsimp only;omega,by dsimp only;omega,by dsimp only;omega,?_⟩
    exact(ih.set i0 (by omega) ⟨by omega,by omega,fun _=>jm⟩).set i0 (by rw[ga i0 (by omega)];omega) ⟨by omega,by omega,fun _=>jm⟩
   ·refine LJ.e (i+1,pt h0 i (eO (gt l (12+i)) 3)) ?_
    exact⟨by dsimp only;omega,by dsimp only;omega,by dsimp only;omega,ih.set i0 (by omega) ⟨by omega,by omega,fun _=>jm⟩⟩
  ·simp[hl,kA,hi,iO,jm,w1]
   (with_reducible repeat' first|refine Xk ?_<;>try simp[hl,kA,hi,iO,jm,w1]|refine Xs ?_ ?_<;>intro h<;>(try intro h')<;>(try simp[h,hl,kA,hi,iO,jm,w1])<;>(try omega)|refine Xg ?_|omega)
   refine LJ.e (i+1,h0) ?_
   exact⟨by dsimp only;omega,by dsimp only;omega,by dsimp only;omega,ih⟩
 simp[hi]
 (with_reducible repeat' first|refine Xk ?_<;>try simp[hi]|refine Xs ?_ ?_<;>intro h<;>(try intro h')<;>(try simp[h,hi])<;>(try omega)|refine Xg ?_|omega)
 clear hi kA i0 i1 rn
 rename mW g h0=>M1
 refine gS.s (by simp;rfl) ?_
 refine gS.u ?_
 simp
 (with_reducible repeat' first|refine Xk ?_<;>try simp|refine Xs ?_ ?_<;>intro h<;>(try intro h')<;>(try simp[h])<;>(try omega)|refine Xg ?_|omega)
 refine eF.e ((0,List.replicate g.kinds.length 0):Int×List Int) (fun y=>[(2,.ptr 0 0 0),(3,.ptr 1 0 0),(4,.ptr 2 0 0),(5,.ptr 4 0 0),(8,.i 1),(9,.i y.1)]) (fun y=>[.row 41 0 g.cells,.row 30 0 (cl fU l),.row 44 0 [.U,.U,.U,.i 0,.i 0],.row 3 0 (cl f1 cs),.row 44 0 [.eu 3 0 1 0 g.size.toNat,.eu 5 0 1 0 g.kinds.length,.eu 6 0 1 0 g.kinds.length,.i R,.i S],.row 3 0 (cl f1 h0),.row 3 0 (cl f1 y.2)]) (fun y=>0≤y.1∧y.1≤g.kinds.length∧mW g y.2) (fun y=>g.kinds.length-y.1.toNat) ?_ ?_
 ·simp
  exact z0
 rintro⟨i,h1⟩ ⟨i0,i1,ih⟩
 dsimp only at i0 i1 ih ⊢
 have kA:max (2+i) 0=(2+i):=by omega
 have rn:=ih.len
 by_cases hi:i<g.kinds.length
 ·have iO:i<2:=by omega
  have w1:IntKind.i64.wrap (gt l (12+(2+i)))=gt l (12+(2+i)):=by
   have:=hw (12+(2+i).toNat) (by omega)
   rwa [show((12+(2+i).toNat:Nat):Int)=12+(2+i)by omega]at this
  have u1:0≤gt l (12+(2+i)):=by
   have:=hu (12+(2+i).toNat) (by omega)
   rw[show((12+(2+i).toNat:Nat):Int)=12+(2+i)by omega]at this
   exact this.1
  have r1:=jo (a:=gt l (12+(2+i))) (b:=3) u1
  by_cases jm:(gt g.kinds i).nu=true
  ·have gL:∀ v,(pt h1 i v).length=h1.length:=fun v=>ga i0 (by omega)
   have ia:i.toNat<g.kinds.length:=by omega
   simp[hl,kA,hi,iO,jm,w1,gL,rn,ia]
   (with_reducible repeat' first|refine Xk ?_<;>try simp[hl,kA,hi,iO,jm,w1,gL,rn,ia]|refine Xs ?_ ?_<;>intro h<;>(try intro h')<;>(try simp[h,hl,kA,hi,iO,jm,w1,gL,rn,ia])<;>(try omega)|refine Xg ?_|omega)
   ·refine LJ.e (i+1,pt (pt h1 i (eO (gt l (12+(2+i))) 3)) i 8) ?_
    refine⟨by dsimp only;omega,by dsimp only;omega,by dsimp only;omega,?_⟩
    exact(ih.set i0 (by omega) ⟨by omega,by omega,fun _=>jm⟩).set i0 (by rw[ga i0 (by omega)];omega) ⟨by omega,by omega,fun _=>jm⟩
   ·refine LJ.e (i+1,pt h1 i (eO (gt l (12+(2+i))) 3)) ?_
    exact⟨by dsimp only;omega,by dsimp only;omega,by dsimp only;omega,ih.set i0 (by omega) ⟨by omega,by omega,fun _=>jm⟩⟩
  ·simp[hl,kA,hi,iO,jm,w1]
   (with_reducible repeat' first|refine Xk ?_<;>try simp[hl,kA,hi,iO,jm,w1]|refine Xs ?_ ?_<;>intro h<;>(try intro h')<;>(try simp[h,hl,kA,hi,iO,jm,w1])<;>(try omega)|refine Xg ?_|omega)
   refine LJ.e (i+1,h1) ?_
   exact⟨by dsimp only;omega,by dsimp only;omega,by dsimp only;omega,ih⟩
 simp[hi]
 (with_reducible repeat' first|refine Xk ?_<;>try simp[hi]|refine Xs ?_ ?_<;>intro h<;>(try intro h')<;>(try simp[h,hi])<;>(try omega)|refine Xg ?_|omega)
 clear hi kA i0 i1 rn
 rename mW g h1=>M3
 refine gS.s (by simp;rfl) ?_
 refine gS.u ?_
 simp
 (with_reducible repeat' first|refine Xk ?_<;>try simp|refine Xs ?_ ?_<;>intro h<;>(try intro h')<;>(try simp[h])<;>(try omega)|refine Xg ?_|omega)
 exact Ey.i ⟨cs,h0,h1,R,S⟩ (by simp[i2,M1.len,M3.len,dP,Pos.cells]) rfl ⟨by simp only;omega,M1,M3,hR,hS,i3⟩
end Go.Proofs.YtnaefnajkaohgaaGreatDoor
namespace Go.AL
open Go
@[simp] theorem ajc(ρ:Nat→Option Nat)(H:et)(k:Nat)(f:Fn)(a b:List D):eC ρ H (k+1) (.fn f a b) = .fn f (a.map (eC ρ H k)) (b.map (eC ρ H k)):=by
 by_cases h:closed (.fn f a b)=true
 ·have h':=h
  simp only[Fk,ah]at h'
  rw[lY h,uI h'.1,uI h'.2]
 ·rw[eC,if_neg h]
@[simp] theorem ajd(ρ:Nat→Option Nat)(H:et)(k:Nat)(cs:List D):eC ρ H (k+1) (.eG cs) = .eG (cs.map (eC ρ H k)):=by
 by_cases h:closed (.eG cs)=true
 ·rw[lY h,uI (by simpa using h)]
 ·rw[eC,if_neg h]
theorem JX(l:List Int):cl f1 l=l.map fun n=>D.i n:=by
 rw[lL]
 induction l with
 | nil=>rfl
 | cons a r ih=>simp[← ih]
theorem Py{ρ:Nat→Option Nat}{H:et}{k n:Nat}{t:TypeId}{cs:List D}(l:List Int)(h:cs=l.map fun n=>D.i n)(hn:n=l.length):lz ρ H (k+1) 1 0 n (some (t,cs))=dI l:=by
 rw[h,← JX,q9 hn]
 rfl
@[simp] theorem ajP(a b:ByteArray):wQ .eql a b=some (.b (decide (a=b))):=by
 have:(a.data.toList == b.data.toList)=decide (a=b):=by
  rw[Bool.eq_iff_iff,beq_iff_eq,decide_eq_true_iff]
  constructor
  ·intro h;cases a;cases b;congr 1;exact dK.1 h
  ·rintro rfl;rfl
 show some (D.val (.bool _))=_
 rw[this]
@[simp] theorem ady(t:TypeId)(s:ByteArray)(n:Nat):mZ t (.val (.string s)) n=some (.ptr n 0 0,.new (.row t 0 [.val (.string s)])):=rfl
@[simp] theorem adv(t:TypeId)(m:Int)(n:Nat):mZ t (.i m) n=some (.ptr n 0 0,.new (.row t 0 [.i m])):=rfl
@[simp] theorem aes(l:List (List eI)):closed (dN 1 fP l)=true:=tE (fun a=>by simp[eV]) l
def zp(rf:Nat)(st:nV)(x:Option Ob)(P:Env→Prop):Prop:=∃ env,x=some (.fE rf env st)∧P env
@[simp] theorem ait{rf:Nat}{st:nV}{env:Env}{P:Env→Prop}:zp rf st (some (.fE rf env st)) P=P env:=propext ⟨fun⟨_,h,k⟩=>by cases h;exact k,fun k=>⟨_,rfl,k⟩⟩
section
variable{T:fH}{v rf:Nat}{b:IR}{dst:Option Nat}{s s1:St}{K:St→Prop}
@[simp] theorem aiP:NH T v rf b dst s K (.norm s1)=zp rf .ready s1.H[v]? fun iV=>XC T b { s1 with H:=s1.H.set v (.fE rf iV .busy) } (uS v rf dst s K):=rfl
@[simp] theorem aiR:uS v rf dst s K (.norm s1)=zp rf .busy s1.H[v]? fun iL=>K { s with env:=put s.env dst (.b true),H:=s1.H.set v (.fE rf iL .ready) }:=rfl
@[simp] theorem aiQ{id:Nat}:uS v rf dst s K (.exit id s1)=zp rf .busy s1.H[v]? fun iL=>K { s with env:=put s.env dst (.b false),H:=s1.H.set v (.fE rf iL (.sw id)) }:=rfl
@[simp] theorem aiS:uS v rf dst s K (.ret s1)=zp rf .busy s1.H[v]? fun iL=>K { s with env:=put s.env dst (.b false),H:=s1.H.set v (.fE rf iL .tG) }:=rfl
@[simp] theorem aiX{l:List D}{e:Env}:oJ [] l e=e:=by cases l<;>rfl
@[simp] theorem aiW{k:Nat}{d:D}{ks:List Nat}{l:List D}{e:Env}:oJ (k::ks) (d::l) e=oJ ks l ((k,d)::e):=rfl
@[simp] theorem air{s:St}:uQ s .ready=some (.norm s):=rfl
@[simp] theorem aiq{s:St}{id:Nat}:uQ s (.sw id)=some (.exit id s):=rfl
@[simp] theorem ais{s:St}:uQ s .tG=some (.ret s):=rfl
end
@[simp] theorem ahD(n:Nat):lU n .jA = []:=rfl
@[simp] theorem ahG(n rf:Nat)(e:Env)(st:nV):lU n (.fE rf e st) = []:=rfl
theorem eU.nr{T:fH}{f:FuncId}{args mG:List D}{dst:Option Nat}{s:St}{K:St→Prop}{fn:eA}{d:D}{Hn:et}(hf:T.fn f=some fn)(hp:fn.full=false)(h:Wf T f mG [] fun d' H'=>d'=d∧H'=Hn)
  (hs:args.map (eC (fun _=>none) s.H 40)=mG) (hr:(lV d&&Hn.all l4)=true) (Dz:(jX d&&Hn.all kU)=true) (k:K { s with env:=put s.env dst (iB s.H.length d),H:=s.H++Hn }):eU T f args dst s K .mk:=by
 refine eU.is hf hp (K0:=fun d' H'=>d'=d∧H'=Hn) (by rw[hs];exact h) ?_
 rintro d' Ci ⟨rfl,rfl⟩
 refine⟨_,?_,k⟩
 unfold after
 by_cases hc:eV args=true
 ·rw[if_pos hc,if_pos Dz]
 ·rw[if_neg hc,if_pos hr]
@[simp] theorem ahL(v g sz off n:Nat):lV (.eu v g sz off n)=true:=rfl
@[simp] theorem ae8(t g:Nat)(cs:List D):l4 (.row t g cs)=qh cs:=rfl
@[simp] theorem ae7(l:List Int):qh (cl f1 l)=true:=by
 rw[JX]
 induction l with
 | nil=>rfl
 | cons a r ih=>simpa[qh,flat]using ih
end Go.AL
namespace Go.Proofs.YtnaefnajkaohgaaGreatDoor
open Go Go.AL Classical
set_option maxRecDepth 10000
set_option maxHeartbeats 4000000
theorem f133(g:ey)(hg:eW g)(n:Int)(hn:0≤n∧n≤2*g.kinds.length):Wf T 133 [dG g,.i n] [] (Is (.b true)):=by
 have hk:=hg.kinds
 refine Yg Au ?_
 simp[Au]
 (with_reducible repeat' first|refine Xk ?_<;>try simp|refine Xs ?_ ?_<;>intro h<;>(try intro h')<;>(try simp[h])<;>(try omega)|refine Xg ?_|omega)
theorem f134(g:ey)(hg:eW g)(n:Int)(hn:0≤n∧n≤2*g.kinds.length):Wf T 134 [.i n,.eG [.fn (.func 133) [dG g] []]] [] (Is (.b false)):=by
 refine Yg Av ?_
 simp[Av]
 refine Yc (f133 g hg n hn) ?_
 simp
theorem f178(g:ey)(hg:eW g)(l:List Int)(hl:∀ n∈l,0≤n∧n≤2*g.kinds.length)(h9:l.length≤9):Wf T 178 [dI l,.fn (.func 134) [] [.eG [.fn (.func 133) [dG g] []]]] [] (Is (.i (-1))):=by
 refine Yg vc ?_
 simp[vc]
 refine eF.e (0:Int) (fun y=>[(0,dI l),(1,.fn (.func 134) [] [.eG [.fn (.func 133) [dG g] []]]),(7,.i l.length),(8,.i y)]) (fun y=>[]) (fun y=>0≤y∧y≤l.length) (fun y=>(l.length-y).toNat) ?_ ?_
 ·simp
 rintro i ⟨i0,i1⟩
 dsimp only at i0 i1 ⊢
 by_cases hi:i<l.length
 ·simp[hi]
  (with_reducible repeat' first|refine Xk ?_<;>try simp|refine Xs ?_ ?_<;>intro h<;>(try intro h')<;>(try simp[h])<;>(try omega)|refine Xg ?_|omega)
  refine Yc (f134 g hg (gt l i) (hl _ (eH i0 hi))) ?_
  simp
  (with_reducible repeat' first|refine Xk ?_<;>try simp|refine Xs ?_ ?_<;>intro h<;>(try intro h')<;>(try simp[h])<;>(try omega)|refine Xg ?_|omega)
  refine LJ.e (i+1) ?_
  exact⟨by omega,by omega,by omega⟩
 ·simp[hi]
theorem f135(g:ey)(hg:eW g)(l:List Int)(hl:∀ n∈l,0≤n∧n≤2*g.kinds.length)(h9:l.length≤9):Wf T 135 [dI l,.fn (.func 134) [] [.eG [.fn (.func 133) [dG g] []]]] [] (Is (.b false)):=by
 refine Yg vb ?_
 simp[vb]
 refine Yc (f178 g hg l hl h9) ?_
 simp
theorem f136(g:ey)(hg:eW g)(l:List Int)(hl:mW g l):Wf T 136 [dG g,dI l] [] (Is (.b true)):=by
 have hk:=hg.kinds
 have hn:=hl.len
 refine Yg Aw ?_
 simp[Aw]
 (with_reducible repeat' first|refine Xk ?_<;>try simp[hn]|refine Xs ?_ ?_<;>intro h<;>(try intro h')<;>(try simp[h,hn])<;>(try omega)|refine Xg ?_|omega)
 refine eF.e (0:Int) (fun y=>[(2,.ptr 0 0 0),(14,dI l),(15,.i g.kinds.length),(16,.i y)]) (fun y=>[.row 214 0 g.cells]) (fun y=>0≤y∧y≤l.length) (fun y=>(l.length-y).toNat) ?_ ?_
 ·simp
 rintro i ⟨i0,i1⟩
 dsimp only at i0 i1 ⊢
 by_cases hi:i<l.length
 ·have ha:=hl.at_ i i0 hi
  have Gt:i<g.kinds.length:=by omega
  by_cases hp:0<gt l i
  ·have sM:=ha.2.2 hp
   simp[hi]
   (with_reducible repeat' first|refine Xk ?_<;>try simp[sM,hp]|refine Xs ?_ ?_<;>intro h<;>(try intro h')<;>(try simp[h,sM,hp])<;>(try omega)|refine Xg ?_|omega)
   refine LJ.e (i+1) ?_
   exact⟨by omega,by omega,by omega⟩
  ·simp[hi]
   (with_reducible repeat' first|refine Xk ?_<;>try simp[hp]|refine Xs ?_ ?_<;>intro h<;>(try intro h')<;>(try simp[h,hp])<;>(try omega)|refine Xg ?_|omega)
   refine LJ.e (i+1) ?_
   exact⟨by omega,by omega,by omega⟩
 ·simp[show ¬ i<g.kinds.length by omega]
theorem f97(g:ey)(hg:eW g)(p:Pos)(hp:fo g p):Wf T 97 [dG g,dP p] [] (Is (.b true)):=by
 have hk:=hg.kinds
 have hr:=hg.eR
 have Dz:=hp.eR
 have hs:=hp.side
 have hz:=hp.size
 have hb:=hg.gH.size
 have h4:=Ir hr.1 (by omega)
 refine Yg Cf ?_
 simp[Cf,h4,hz]
 refine gq.r rfl rfl (f135 g hg p.cs hp.cs (by omega)) (by simp) (by simp[flat]) (by simp) ?_
 simp
 refine Yt (f136 g hg p.h0 hp.h0) ?_
 simp
 refine Yt (f136 g hg p.h1 hp.h1) ?_
 simp
 (with_reducible repeat' first|refine Xk ?_<;>try simp[h4]|refine Xs ?_ ?_<;>intro h<;>(try intro h')<;>(try simp[h,h4])<;>(try omega)|refine Xg ?_|omega)
 ·simp[*]
 ·have:p.side=1:=by omega
  simp[*]
set_option maxRecDepth 10000
set_option maxHeartbeats 4000000
theorem f177(n:Int):Wf T 177 [.i n] [] (Is (.b false)):=by
 refine Yg AT ?_
 simp[AT]
theorem f131(a b:Int):Wf T 131 [.i a,.i b] [] (Is (.i (iF a b))):=by
 refine Yg Ar ?_
 simp[Ar]
 refine Yc (f177 a) ?_
 simp
 refine Yc (f177 b) ?_
 simp
 (with_reducible repeat' first|refine Xk ?_<;>try simp|refine Xs ?_ ?_<;>intro h<;>(try intro h')<;>(try simp[h])<;>(try omega)|refine Xg ?_|omega)
 all_goals
  unfold iF
  (repeat' split)<;>(first|rfl|(exfalso;omega))
theorem f130(a b:List Int)(ha:a.length<2 ^ 40)(hb:b.length<2 ^ 40):Wf T 130 [dI a,dI b] [] (Is (.i (iC a b))):=by
 refine Yg Aq ?_
 simp[Aq]
 refine eF.e (0:Int) (fun i=>[(0,dI a),(1,dI b),(9,dI a),(10,.i a.length),(11,.i i)]) (fun i=>[]) (fun i=>0≤i∧i≤a.length∧i≤b.length∧a.take i.toNat=b.take i.toNat) (fun i=>a.length-i.toNat) ?_ ?_
 ·simp
 rintro i ⟨h0,h1,De,h2⟩
 have e:=MF h2 (by omega) (by omega)
 by_cases hi:i<a.length
 ·by_cases hj:i<b.length
  ·simp[hi,hj]
   (with_reducible repeat' first|refine Xk ?_<;>try simp|refine Xs ?_ ?_<;>intro h<;>(try intro h')<;>(try simp[h])<;>(try omega)|refine Xg ?_|omega)
   refine Yc (f131 (gt a i) (gt b i)) ?_
   simp
   by_cases hz:iF (gt a i) (gt b i)=0
   ·simp[hz]
    (with_reducible repeat' first|refine Xk ?_<;>try simp|refine Xs ?_ ?_<;>intro h<;>(try intro h')<;>(try simp[h])<;>(try omega)|refine Xg ?_|omega)
    refine LJ.e (i+1) ?_
    refine⟨by omega,by omega,by omega,by omega,?_⟩
    rw[gj h0 hi,gj h0 hj,h2,rI.1 hz]
   ·simp[hz]
    rw[e,kP h0 hi,kP h0 hj,iC,if_neg (fun h=>hz (rI.2 h))]
  ·simp[hi,hj]
   (with_reducible repeat' first|refine Xk ?_<;>try simp|refine Xs ?_ ?_<;>intro h<;>(try intro h')<;>(try simp[h])<;>(try omega)|refine Xg ?_|omega)
   have h5:iF ((a.drop i.toNat).length) ((b.drop i.toNat).length)=1:=by
    simp only[bk,iF]
    rw[if_neg (by omega),if_pos (by omega)]
   rw[e,Hq (by simp only[bk];omega),h5]
 ·simp[hi]
  (with_reducible repeat' first|refine Xk ?_<;>try simp|refine Xs ?_ ?_<;>intro h<;>(try intro h')<;>(try simp[h])<;>(try omega)|refine Xg ?_|omega)
  all_goals
   rw[e,Hq (by simp only[bk];omega)]
   simp only[bk,iF]
   (repeat' split)<;>omega
theorem f129(l:List Int)(hl:l.length<2 ^ 40):Wf T 129 [dI l] [] (Is (.i (ke l))):=by
 refine Yg Ao ?_
 simp[Ao]
 refine eF.e (0:Int) (fun i=>[(3,.i 0),(6,dI l),(7,.i l.length),(8,.i i)]) (fun i=>[]) (fun i=>0≤i∧i≤l.length∧ke l=ke (l.drop i.toNat)) (fun i=>l.length-i.toNat) ?_ ?_
 ·simp
 rintro i ⟨h0,h1,h2⟩
 by_cases hi:i<l.length
 ·rw[kP h0 hi]at h2
  by_cases hz:gt l i=0
  ·simp[hi,hz]
   (with_reducible repeat' first|refine Xk ?_<;>try simp|refine Xs ?_ ?_<;>intro h<;>(try intro h')<;>(try simp[h])<;>(try omega)|refine Xg ?_|omega)
   refine LJ.e (i+1) ?_
   refine⟨by omega,by omega,by omega,?_⟩
   rw[h2]
   simp only[ke,hz]
   rw[if_neg (by simp),show(i+1).toNat=i.toNat+1 by omega]
  ·simp[hi,hz]
   (with_reducible repeat' first|refine Xk ?_<;>try simp|refine Xs ?_ ?_<;>intro h<;>(try intro h')<;>(try simp[h])<;>(try omega)|refine Xg ?_|omega)
   rw[h2]
   simp[ke,hz]
 ·simp[hi]
  rw[h2,c8 (by omega)]
  rfl
theorem f88(p q:Pos)(hp:Small p)(hq:Small q):Wf T 88 [dP p,dP q] [] (Is (.i (fG p q))):=by
 refine Yg B8 ?_
 simp[B8]
 refine Yt (f130 _ _ hp.1 hq.1) ?_
 simp
 refine Yt (f130 _ _ hp.2.1 hq.2.1) ?_
 simp
 refine Yt (f130 _ _ hp.2.2 hq.2.2) ?_
 simp
 refine Yt (f131 _ _) ?_
 simp
 refine Yt (f131 _ _) ?_
 simp
 refine gq.r rfl rfl (f129 [iC p.cs q.cs,iC p.h0 q.h0,iC p.h1 q.h1,iF p.eR q.eR,iF p.side q.side] (by simp)) (by simp;exact Py _ rfl rfl) (by simp[flat]) (by simp) ?_
 simp
 rfl
theorem f100(l:List Pos)(hl:l.length<2 ^ 40)(hs:∀ p∈l,Small p)(sT:iI l):Wf T 100 [fh l] [] (Is (.b true)):=by
 refine Yg Aa ?_
 simp[Aa]
 (with_reducible repeat' first|refine Xk ?_<;>try simp|refine Xs ?_ ?_<;>intro h<;>(try intro h')<;>(try simp[h])<;>(try omega)|refine Xg ?_|omega)
 refine eF.e (0:Int) (fun i=>[(0,fh l),(6,.i (l.length-1)),(7,.i i)]) (fun i=>[]) (fun i=>0≤i) (fun i=>l.length-i.toNat) ?_ ?_
 ·simp
 rintro i h0
 by_cases hi:i<l.length-1
 ·simp[hi]
  (with_reducible repeat' first|refine Xk ?_<;>try simp|refine Xs ?_ ?_<;>intro h<;>(try intro h')<;>(try simp[h])<;>(try omega)|refine Xg ?_|omega)
  refine Yt (f88 _ _ (hs _ (eH h0 (by omega))) (hs _ (eH (n:=i+1) (by omega) (by omega)))) ?_
  simp
  have:=sT (i+1) (by omega) (by omega)
  rw[cO]at this
  simp[show ¬ 0≤fG (gt l i) (gt l (i+1))by omega]
  (with_reducible repeat' first|refine Xk ?_<;>try simp|refine Xs ?_ ?_<;>intro h<;>(try intro h')<;>(try simp[h])<;>(try omega)|refine Xg ?_|omega)
  refine LJ.e (i+1) ?_
  exact⟨by omega,by omega⟩
 ·simp[hi]
theorem f96(g:ey)(hg:eW g)(p:Pos)(hp:fo g p):Wf T 96 [dP p,.eG g.cells] [] (Is (.b false)):=by
 refine Yg Ce ?_
 simp[Ce]
 refine Yc (f97 g hg p hp) ?_
 simp
theorem f147(g:ey)(hg:eW g)(l:List Pos)(hl:∀ p∈l,fo g p)(h9:l.length<2 ^ 40):Wf T 147 [fh l,.fn (.func 96) [] [.eG g.cells]] [] (Is (.i (-1))):=by
 refine Yg AI ?_
 simp[AI]
 refine eF.e (0:Int) (fun y=>[(0,fh l),(1,.fn (.func 96) [] [.eG g.cells]),(7,.i l.length),(8,.i y)]) (fun y=>[]) (fun y=>0≤y∧y≤l.length) (fun y=>(l.length-y).toNat) ?_ ?_
 ·simp
 rintro i ⟨i0,i1⟩
 by_cases hi:i<l.length
 ·simp[hi]
  (with_reducible repeat' first|refine Xk ?_<;>try simp|refine Xs ?_ ?_<;>intro h<;>(try intro h')<;>(try simp[h])<;>(try omega)|refine Xg ?_|omega)
  refine Yc (f96 g hg (gt l i) (hl _ (eH i0 hi))) ?_
  simp
  (with_reducible repeat' first|refine Xk ?_<;>try simp|refine Xs ?_ ?_<;>intro h<;>(try intro h')<;>(try simp[h])<;>(try omega)|refine Xg ?_|omega)
  refine LJ.e (i+1) ?_
  exact⟨by omega,by omega,by omega⟩
 ·simp[hi]
theorem f99(g:ey)(hg:eW g)(l:List Pos)(hl:∀ p∈l,fo g p)(h9:l.length<2 ^ 40):Wf T 99 [fh l,.fn (.func 96) [] [.eG g.cells]] [] (Is (.b false)):=by
 refine Yg Ch ?_
 simp[Ch]
 refine Yc (f147 g hg l hl h9) ?_
 simp
