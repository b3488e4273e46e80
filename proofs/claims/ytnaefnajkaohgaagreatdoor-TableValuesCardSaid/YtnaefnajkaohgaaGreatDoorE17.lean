/- Part 17 of the proof of skewer.skewerlaw15.TableValues. -/
import Derived.Test.YtnaefnajkaohgaaGreatDoorE16
import Derived.Test.YtnaefnajkaohgaaGreatDoorE14
import Derived.Test.YtnaefnajkaohgaaGreatDoorE11
set_option linter.all false
namespace Go.Proofs.YtnaefnajkaohgaaGreatDoor
open Go Go.AL Classical
set_option maxRecDepth 10000
set_option maxHeartbeats 1000000
@[simp] theorem ain(n:Int)(nx:List (List Int))(tn:List Int):closed (bD n nx tn)=true:=by simp[bD]
theorem f104(w vR c:Int)(hw:0≤w∧w<256)(hh:0≤vR∧vR<256)(hc:0≤c∧c<256):Wf T 104 [.val (.int .u8 w),.val (.int .u8 vR),.val (.int .u8 c)] [] (Ey (fun x:Int×List (List Int)×List Int=>bD x.1 x.2.1 x.2.2) fun x=>l7 (wC x.1 x.2.1 x.2.2)):=by
 have w1:=jV (a:=w) (b:=3) hw.1
 have h1:=jV (a:=vR) (b:=3) hh.1
 have w2:IntKind.i64.wrap (fi w 3)=fi w 3:=oT ⟨by omega,by omega⟩
 have h2:IntKind.i64.wrap (fi vR 3)=fi vR 3:=oT ⟨by omega,by omega⟩
 have c2:IntKind.i64.wrap c=c:=oT ⟨by omega,by omega⟩
 refine Yg Ci ?_
 simp[Ci,w2,h2]
 (with_reducible repeat' first|refine Xk ?_<;>try simp|refine Xs ?_ ?_<;>intro h<;>(try intro h')<;>(try simp[h])<;>(try omega)|refine Xg ?_|omega)
 obtain⟨n,nx,tn,hg,hb⟩:=f149 (1+fi w 3) (1+fi vR 3) (by omega) (by omega)
 have hn:1≤n∧n≤9:=hb.size
 refine fw.c rfl rfl hg (by simp) (by simp[bD]) ?_
 simp[bD,c2]
 (with_reducible repeat' first|refine Xk ?_<;>try simp|refine Xs ?_ ?_<;>intro h<;>(try intro h')<;>(try simp[h])<;>(try omega)|refine Xg ?_|omega)
 ·rw[c2]
  have hr:=jV (a:=c) (b:=n) hc.1
  have mH:=cz c (show n≠0 by omega)
  have sW:=cg c (show 0<n by omega)
  refine Yv (f150 n nx tn hb (fi c n) (by omega)) fun x hx=>?_
  simp
  simp[bD]
  exact Ey.i (n,x,tn) rfl rfl hx
 ·exact Ey.i (n,nx,tn) rfl rfl hb
set_option maxRecDepth 10000
set_option maxHeartbeats 1000000
theorem iO.s{T:gj}{n:Nat}{live:List Nat}{a:IR}{s s':St}{K:gA}(hs:s=s')(h:iO T n live a s' K .mk):iO T n live a s K .mk:=by subst hs;exact h
theorem fe.s{T:gj}{live:List Nat}{a:IR}{s s':St}{K:gA}(hs:s=s')(h:fe T live a s' K .mk):fe T live a s K .mk:=by subst hs;exact h
theorem MB(l:List Int):cl fU l=l.map fun n=>D.val (.int .u8 n):=by
 rw[l8]
 induction l with
 | nil=>rfl
 | cons a r ih=>simp[← ih]
@[simp] theorem ali{l:List Int}{k:Nat}{P:D→Prop}:oA (cl fU l)[k]? P .mk=(k<l.length∧P (.val (.int .u8 (gt l k)))):=by
 rw[MB]
 by_cases h:k<l.length
 ·simp[h,gt]
 ·simp[h]
@[simp] theorem ag7{l:List Int}{k:Nat}(h:k<(cl fU l).length):(cl fU l)[k] = .val (.int .u8 (gt l k)):=by
 have h':k<l.length:=by simpa using h
 simp[MB,gt,h']
theorem f59(g:eU)(hg:fr g)(l:List Int)(hl:l.length=18)(h:∀ n∈l,0≤n∧n<256) :
  Wf T 59 [dG g,.agg (cl fU l)] [] (Ey dP (fR g)):=by
 have hb:=hg.ib.size
 have hk:=hg.kinds
 have hr:=hg.fq
 have h4:=KX hr.1 (by omega)
 have h5:=yA hr.1 (by omega)
 have h6:(0:Int)<2 ^ g.fq.toNat:=Int.pow_pos (by decide)
 have hu:∀ k:Nat,k<18→0≤gt l k∧gt l k<256:=fun k hk=>h _ (ff (by omega) (by omega))
 have hw:∀ k:Nat,k<18→IntKind.i64.wrap (gt l k)=gt l k:=fun k hk=>by
  have:=hu k hk
  exact oT ⟨by omega,by omega⟩
 have F7:=hw 16 (by omega)
 have Ws:=hw 17 (by omega)
 have OT:=hu 16 (by omega)
 have OU:=hu 17 (by omega)
 simp at F7 Ws OT OU
 have r16:=jV (a:=gt l 16) (b:=2 ^ g.fq.toNat) OT.1
 have m16:=cz (gt l 16) (show(2:Int) ^ g.fq.toNat≠0 by omega)
 have n16:=cg (gt l 16) h6
 have r17:=jV (a:=gt l 17) (b:=2) OU.1
 have La:IntKind.i64.wrap (fi (gt l 17) 2)=fi (gt l 17) 2:=oT ⟨by omega,by omega⟩
 have hR:0≤fi (gt l 16) (2 ^ g.fq.toNat)∧fi (gt l 16) (2 ^ g.fq.toNat)<2 ^ g.fq.toNat:=by omega
 have hS:0≤fi (gt l 17) 2∧fi (gt l 17) 2≤1:=by omega
 refine Yg DX ?_
 simp[DX,h4,hl,F7,La]
 generalize fi (gt l 16) (2 ^ g.fq.toNat)=R at *
 generalize fi (gt l 17) 2=S at *
 (with_reducible repeat' first|refine Xk ?_<;>try simp[h4,hl,F7,La]|refine Xs ?_ ?_<;>intro h<;>(try intro h')<;>(try simp[h,h4,hl,F7,La])<;>(try omega)|refine Xg ?_|omega)
 refine fe.e ((0,List.replicate g.size.toNat 0):Int×List Int) (fun y=>[(2,.ptr 0 0 0),(3,.ptr 1 0 0),(4,.ptr 2 0 0),(5,.ptr 4 0 0),(6,.i y.1)]) (fun y=>[.row 41 0 g.cells,.row 30 0 (cl fU l),.row 44 0 [.emp,.emp,.emp,.i 0,.i 0],.row 3 0 (cl f1 y.2),.row 44 0 [.eT 3 0 1 0 g.size.toNat,.emp,.emp,.i R,.i S]]) (fun y=>0≤y.1∧y.1≤6∧y.2.length=g.size.toNat∧∀ x∈y.2,0≤x∧x≤2*g.kinds.length) (fun y=>6-y.1.toNat) ?_ ?_
 ·simp
  (with_reducible repeat' first|refine Xk ?_<;>try simp|refine Xs ?_ ?_<;>intro h<;>(try intro h')<;>(try simp[h])<;>(try omega)|refine Xg ?_|omega)
 rintro⟨i,cs⟩ ⟨i0,i1,i2,i3⟩
 dsimp only at i0 i1 i2 i3 ⊢
 have mf:max i 0=i:=by omega
 by_cases hi:i<6
 ·have w1:IntKind.i64.wrap (gt l i)=gt l i:=by
   have:=hw i.toNat (by omega)
   rwa [cD i0]at this
  have w2:IntKind.i64.wrap (gt l (6+i))=gt l (6+i):=by
   have:=hw (6+i.toNat) (by omega)
   rwa [show((6+i.toNat:Nat):Int)=6+i by omega]at this
  have u1:0≤gt l i:=by
   have:=hu i.toNat (by omega)
   rw[cD i0]at this
   exact this.1
  have u2:0≤gt l (6+i):=by
   have:=hu (6+i.toNat) (by omega)
   rw[show((6+i.toNat:Nat):Int)=6+i by omega]at this
   exact this.1
  have r1:=jV (a:=gt l i) (b:=g.size+1) u1
  have e1:=cz (gt l i) (show g.size+1≠0 by omega)
  have r2:=jV (a:=gt l (6+i)) (b:=g.kinds.length) u2
  have e2:=cz (gt l (6+i)) (show(g.kinds.length:Int)≠0 by omega)
  have e3:=cg (gt l (6+i)) (show(0:Int)<g.kinds.length by omega)
  have r3:=jV (a:=i) (b:=2) i0
  simp[hl,mf,hi,w1,w2]
  have gd:g.kinds≠[]:=by intro h;simp[h]at hk
  obtain⟨A,hA⟩:∃ A,fi (gt l i) (g.size+1)=A:=⟨_,rfl⟩
  obtain⟨B,hB⟩:∃ B,fi (gt l (6+i)) g.kinds.length=B:=⟨_,rfl⟩
  obtain⟨C,hC⟩:∃ B,fi i 2=B:=⟨_,rfl⟩
  rw[hA]at r1
  rw[hB]at r2
  rw[hC]at r3
  simp only[hA]
  (with_reducible repeat' first|refine Xk ?_<;>try simp[hl,mf,w1,w2,hA,hB,hC,gd]|refine Xs ?_ ?_<;>intro h<;>(try intro h')<;>(try simp[h,hl,mf,w1,w2,hA,hB,hC,gd])<;>(try omega)|refine Xg ?_|omega)
  ·(with_reducible repeat' first|refine Xk ?_<;>try simp[gd]|refine Xs ?_ ?_<;>intro h<;>(try intro h')<;>(try simp[h,gd])<;>(try omega)|refine Xg ?_|omega)
   refine LJ.e (i+1,pt cs A (1+2*B+C)) ?_
   dsimp only
   have hv:0≤1+2*B+C∧1+2*B+C≤2*g.kinds.length:=by omega
   refine⟨by omega,by omega,by omega,?_,?_⟩
   ·have:=gI (l:=cs) (n:=A) (v:=1+2*B+C) (by omega) (by omega)
    omega
   ·intro x hx
    rcases PM hx with rfl|hx
    ·exact hv
    ·exact i3 x hx
  ·refine LJ.e (i+1,cs) ?_
   exact⟨by omega,by omega,by omega,i2,i3⟩
 simp[hi]
 have z0:oC g (List.replicate g.kinds.length 0):=⟨by simp,fun k hk ja=>by
  have e:gt (List.replicate g.kinds.length (0:Int)) k=0:=by
   simp at ja
   have:k.toNat<g.kinds.length:=by omega
   simp[gt,this]
  rw[e];omega⟩
 refine fe.un ?_
 refine iO.s (by simp;rfl) ?_
 refine iO.u ?_
 simp
 (with_reducible repeat' first|refine Xk ?_<;>try simp|refine Xs ?_ ?_<;>intro h<;>(try intro h')<;>(try simp[h])<;>(try omega)|refine Xg ?_|omega)
 refine fe.e ((0,List.replicate g.kinds.length 0):Int×List Int) (fun y=>[(2,.ptr 0 0 0),(3,.ptr 1 0 0),(4,.ptr 2 0 0),(5,.ptr 4 0 0),(8,.i 0),(9,.i y.1)]) (fun y=>[.row 41 0 g.cells,.row 30 0 (cl fU l),.row 44 0 [.emp,.emp,.emp,.i 0,.i 0],.row 3 0 (cl f1 cs),.row 44 0 [.eT 3 0 1 0 g.size.toNat,.eT 5 0 1 0 g.kinds.length,.emp,.i R,.i S],.row 3 0 (cl f1 y.2)]) (fun y=>0≤y.1∧y.1≤g.kinds.length∧oC g y.2) (fun y=>g.kinds.length-y.1.toNat) ?_ ?_
 ·simp
  exact z0
 rintro⟨i,h0⟩ ⟨i0,i1,ih⟩
 dsimp only at i0 i1 ih ⊢
 have mf:max i 0=i:=by omega
 have sV:=ih.len
 by_cases hi:i<g.kinds.length
 ·have ka:i<2:=by omega
  have w1:IntKind.i64.wrap (gt l (12+i))=gt l (12+i):=by
   have:=hw (12+i.toNat) (by omega)
   rwa [show((12+i.toNat:Nat):Int)=12+i by omega]at this
  have u1:0≤gt l (12+i):=by
   have:=hu (12+i.toNat) (by omega)
   rw[show((12+i.toNat:Nat):Int)=12+i by omega]at this
   exact this.1
  have r1:=jV (a:=gt l (12+i)) (b:=3) u1
  by_cases jT:(gt g.kinds i).mZ=true
  ·have kU:∀ v,(pt h0 i v).length=h0.length:=fun v=>gI i0 (by omega)
   have iH:i.toNat<g.kinds.length:=by omega
   simp[hl,mf,hi,ka,jT,w1,kU,sV,iH]
   (with_reducible repeat' first|refine Xk ?_<;>try simp[hl,mf,hi,ka,jT,w1,kU,sV,iH]|refine Xs ?_ ?_<;>intro h<;>(try intro h')<;>(try simp[h,hl,mf,hi,ka,jT,w1,kU,sV,iH])<;>(try omega)|refine Xg ?_|omega)
   ·refine LJ.e (i+1,pt (pt h0 i (fi (gt l (12+i)) 3)) i 8) ?_
    refine⟨by dsimp only;omega,by dsimp only;omega,by dsimp only;omega,?_⟩
    exact(ih.set i0 (by omega) ⟨by omega,by omega,fun _=>jT⟩).set i0 (by rw[gI i0 (by omega)];omega) ⟨by omega,by omega,fun _=>jT⟩
   ·refine LJ.e (i+1,pt h0 i (fi (gt l (12+i)) 3)) ?_
    exact⟨by dsimp only;omega,by dsimp only;omega,by dsimp only;omega,ih.set i0 (by omega) ⟨by omega,by omega,fun _=>jT⟩⟩
  ·simp[hl,mf,hi,ka,jT,w1]
   (with_reducible repeat' first|refine Xk ?_<;>try simp[hl,mf,hi,ka,jT,w1]|refine Xs ?_ ?_<;>intro h<;>(try intro h')<;>(try simp[h,hl,mf,hi,ka,jT,w1])<;>(try omega)|refine Xg ?_|omega)
   refine LJ.e (i+1,h0) ?_
   exact⟨by dsimp only;omega,by dsimp only;omega,by dsimp only;omega,ih⟩
 simp[hi]
 (with_reducible repeat' first|refine Xk ?_<;>try simp[hi]|refine Xs ?_ ?_<;>intro h<;>(try intro h')<;>(try simp[h,hi])<;>(try omega)|refine Xg ?_|omega)
 clear hi mf i0 i1 sV
 rename oC g h0=>P3
 refine iO.s (by simp;rfl) ?_
 refine iO.u ?_
 simp
 (with_reducible repeat' first|refine Xk ?_<;>try simp|refine Xs ?_ ?_<;>intro h<;>(try intro h')<;>(try simp[h])<;>(try omega)|refine Xg ?_|omega)
 refine fe.e ((0,List.replicate g.kinds.length 0):Int×List Int) (fun y=>[(2,.ptr 0 0 0),(3,.ptr 1 0 0),(4,.ptr 2 0 0),(5,.ptr 4 0 0),(8,.i 1),(9,.i y.1)]) (fun y=>[.row 41 0 g.cells,.row 30 0 (cl fU l),.row 44 0 [.emp,.emp,.emp,.i 0,.i 0],.row 3 0 (cl f1 cs),.row 44 0 [.eT 3 0 1 0 g.size.toNat,.eT 5 0 1 0 g.kinds.length,.eT 6 0 1 0 g.kinds.length,.i R,.i S],.row 3 0 (cl f1 h0),.row 3 0 (cl f1 y.2)]) (fun y=>0≤y.1∧y.1≤g.kinds.length∧oC g y.2) (fun y=>g.kinds.length-y.1.toNat) ?_ ?_
 ·simp
  exact z0
 rintro⟨i,h1⟩ ⟨i0,i1,ih⟩
 dsimp only at i0 i1 ih ⊢
 have mf:max (2+i) 0=(2+i):=by omega
 have sV:=ih.len
 by_cases hi:i<g.kinds.length
 ·have ka:i<2:=by omega
  have w1:IntKind.i64.wrap (gt l (12+(2+i)))=gt l (12+(2+i)):=by
   have:=hw (12+(2+i).toNat) (by omega)
   rwa [show((12+(2+i).toNat:Nat):Int)=12+(2+i)by omega]at this
  have u1:0≤gt l (12+(2+i)):=by
   have:=hu (12+(2+i).toNat) (by omega)
   rw[show((12+(2+i).toNat:Nat):Int)=12+(2+i)by omega]at this
   exact this.1
  have r1:=jV (a:=gt l (12+(2+i))) (b:=3) u1
  by_cases jT:(gt g.kinds i).mZ=true
  ·have kU:∀ v,(pt h1 i v).length=h1.length:=fun v=>gI i0 (by omega)
   have iH:i.toNat<g.kinds.length:=by omega
   simp[hl,mf,hi,ka,jT,w1,kU,sV,iH]
   (with_reducible repeat' first|refine Xk ?_<;>try simp[hl,mf,hi,ka,jT,w1,kU,sV,iH]|refine Xs ?_ ?_<;>intro h<;>(try intro h')<;>(try simp[h,hl,mf,hi,ka,jT,w1,kU,sV,iH])<;>(try omega)|refine Xg ?_|omega)
   ·refine LJ.e (i+1,pt (pt h1 i (fi (gt l (12+(2+i))) 3)) i 8) ?_
    refine⟨by dsimp only;omega,by dsimp only;omega,by dsimp only;omega,?_⟩
    exact(ih.set i0 (by omega) ⟨by omega,by omega,fun _=>jT⟩).set i0 (by rw[gI i0 (by omega)];omega) ⟨by omega,by omega,fun _=>jT⟩
   ·refine LJ.e (i+1,pt h1 i (fi (gt l (12+(2+i))) 3)) ?_
    exact⟨by dsimp only;omega,by dsimp only;omega,by dsimp only;omega,ih.set i0 (by omega) ⟨by omega,by omega,fun _=>jT⟩⟩
  ·simp[hl,mf,hi,ka,jT,w1]
   (with_reducible repeat' first|refine Xk ?_<;>try simp[hl,mf,hi,ka,jT,w1]|refine Xs ?_ ?_<;>intro h<;>(try intro h')<;>(try simp[h,hl,mf,hi,ka,jT,w1])<;>(try omega)|refine Xg ?_|omega)
   refine LJ.e (i+1,h1) ?_
   exact⟨by dsimp only;omega,by dsimp only;omega,by dsimp only;omega,ih⟩
 simp[hi]
 (with_reducible repeat' first|refine Xk ?_<;>try simp[hi]|refine Xs ?_ ?_<;>intro h<;>(try intro h')<;>(try simp[h,hi])<;>(try omega)|refine Xg ?_|omega)
 clear hi mf i0 i1 sV
 rename oC g h1=>P4
 refine iO.s (by simp;rfl) ?_
 refine iO.u ?_
 simp
 (with_reducible repeat' first|refine Xk ?_<;>try simp|refine Xs ?_ ?_<;>intro h<;>(try intro h')<;>(try simp[h])<;>(try omega)|refine Xg ?_|omega)
 exact Ey.i ⟨cs,h0,h1,R,S⟩ (by simp[i2,P3.len,P4.len,dP,Pos.cells]) rfl ⟨by simp only;omega,P3,P4,hR,hS,i3⟩
end Go.Proofs.YtnaefnajkaohgaaGreatDoor
namespace Go.AL
open Go
@[simp] theorem adM(ρ:Nat→Option Nat)(H:U)(k:Nat)(f:Fn)(a b:List D):eZ ρ H (k+1) (.fn f a b) = .fn f (a.map (eZ ρ H k)) (b.map (eZ ρ H k)):=by
 by_cases h:closed (.fn f a b)=true
 ·have h':=h
  simp only[HU,ah]at h'
  rw[lI h,wA h'.1,wA h'.2]
 ·rw[eZ,if_neg h]
@[simp] theorem anf(ρ:Nat→Option Nat)(H:U)(k:Nat)(cs:List D):eZ ρ H (k+1) (.fh cs) = .fh (cs.map (eZ ρ H k)):=by
 by_cases h:closed (.fh cs)=true
 ·rw[lI h,wA (by simpa using h)]
 ·rw[eZ,if_neg h]
theorem EK(l:List Int):cl f1 l=l.map fun n=>D.i n:=by
 rw[l8]
 induction l with
 | nil=>rfl
 | cons a r ih=>simp[← ih]
theorem S1{ρ:Nat→Option Nat}{H:U}{k n:Nat}{t:TypeId}{cs:List D}(l:List Int)(h:cs=l.map fun n=>D.i n)(hn:n=l.length):lY ρ H (k+1) 1 0 n (some (t,cs))=dI l:=by
 rw[h,← EK,qF hn]
 rfl
@[simp] theorem anS(a b:ByteArray):yR .eql a b=some (.b (decide (a=b))):=by
 have:(a.data.toList == b.data.toList)=decide (a=b):=by
  rw[Bool.eq_iff_iff,beq_iff_eq,decide_eq_true_iff]
  constructor
  ·intro h;cases a;cases b;congr 1;exact eD.1 h
  ·rintro rfl;rfl
 show some (D.val (.bool _))=_
 rw[this]
@[simp] theorem ahy(t:TypeId)(s:ByteArray)(n:Nat):p6 t (.val (.string s)) n=some (.ptr n 0 0,.new (.row t 0 [.val (.string s)])):=rfl
@[simp] theorem ahv(t:TypeId)(m:Int)(n:Nat):p6 t (.i m) n=some (.ptr n 0 0,.new (.row t 0 [.i m])):=rfl
@[simp] theorem ait(l:List (List eY)):closed (dN 1 fP l)=true:=vp (fun a=>by simp[fy]) l
def By(rf:Nat)(st:oV)(x:Option Ob)(P:Env→Prop):Prop:=∃ env,x=some (.gg rf env st)∧P env
@[simp] theorem amv{rf:Nat}{st:oV}{env:Env}{P:Env→Prop}:By rf st (some (.gg rf env st)) P=P env:=propext ⟨fun⟨_,h,k⟩=>by cases h;exact k,fun k=>⟨_,rfl,k⟩⟩
section
variable{T:gj}{v rf:Nat}{b:IR}{dst:Option Nat}{s s1:St}{K:St→Prop}
@[simp] theorem amS:QI T v rf b dst s K (.norm s1)=By rf .ready s1.H[v]? fun jw=>XC T b { s1 with H:=s1.H.set v (.gg rf jw .busy) } (wN v rf dst s K):=rfl
@[simp] theorem amU:wN v rf dst s K (.norm s1)=By rf .busy s1.H[v]? fun jo=>K { s with env:=put s.env dst (.b true),H:=s1.H.set v (.gg rf jo .ready) }:=rfl
@[simp] theorem amT{id:Nat}:wN v rf dst s K (.exit id s1)=By rf .busy s1.H[v]? fun jo=>K { s with env:=put s.env dst (.b false),H:=s1.H.set v (.gg rf jo (.tV id)) }:=rfl
@[simp] theorem amV:wN v rf dst s K (.ret s1)=By rf .busy s1.H[v]? fun jo=>K { s with env:=put s.env dst (.b false),H:=s1.H.set v (.gg rf jo .vr) }:=rfl
@[simp] theorem amZ{l:List D}{e:Env}:pS [] l e=e:=by cases l<;>rfl
@[simp] theorem amY{k:Nat}{d:D}{ks:List Nat}{l:List D}{e:Env}:pS (k::ks) (d::l) e=pS ks l ((k,d)::e):=rfl
@[simp] theorem amt{s:St}:wL s .ready=some (.norm s):=rfl
@[simp] theorem ams{s:St}{id:Nat}:wL s (.tV id)=some (.exit id s):=rfl
@[simp] theorem amu{s:St}:wL s .vr=some (.ret s):=rfl
end
@[simp] theorem alH(n:Nat):lU n .jv = []:=rfl
@[simp] theorem alJ(n rf:Nat)(e:Env)(st:oV):lU n (.gg rf e st) = []:=rfl
theorem fw.nr{T:gj}{f:FuncId}{args ng:List D}{dst:Option Nat}{s:St}{K:St→Prop}{fn:eW}{d:D}{Hn:U}(hf:T.fn f=some fn)(hp:fn.full=false)(h:Wf T f ng [] fun d' H'=>d'=d∧H'=Hn)
  (hs:args.map (eZ (fun _=>none) s.H 40)=ng) (hr:(mN d&&Hn.all nk)=true) (FU:(kW d&&Hn.all l9)=true) (k:K { s with env:=put s.env dst (iX s.H.length d),H:=s.H++Hn }):fw T f args dst s K .mk:=by
 refine fw.is hf hp (K0:=fun d' H'=>d'=d∧H'=Hn) (by rw[hs];exact h) ?_
 rintro d' Ei ⟨rfl,rfl⟩
 refine⟨_,?_,k⟩
 unfold after
 by_cases hc:fy args=true
 ·rw[if_pos hc,if_pos FU]
 ·rw[if_neg hc,if_pos hr]
@[simp] theorem alN(v g sz off n:Nat):mN (.eT v g sz off n)=true:=rfl
@[simp] theorem aje(t g:Nat)(cs:List D):nk (.row t g cs)=sL cs:=rfl
@[simp] theorem ajd(l:List Int):sL (cl f1 l)=true:=by
 rw[EK]
 induction l with
 | nil=>rfl
 | cons a r ih=>simpa[sL,flat]using ih
end Go.AL
namespace Go.Proofs.YtnaefnajkaohgaaGreatDoor
open Go Go.AL Classical
set_option maxRecDepth 10000
set_option maxHeartbeats 4000000
theorem f133(g:eU)(hg:fr g)(n:Int)(hn:0≤n∧n≤2*g.kinds.length):Wf T 133 [dG g,.i n] [] (Is (.b true)):=by
 have hk:=hg.kinds
 refine Yg Cy ?_
 simp[Cy]
 (with_reducible repeat' first|refine Xk ?_<;>try simp|refine Xs ?_ ?_<;>intro h<;>(try intro h')<;>(try simp[h])<;>(try omega)|refine Xg ?_|omega)
theorem f134(g:eU)(hg:fr g)(n:Int)(hn:0≤n∧n≤2*g.kinds.length):Wf T 134 [.i n,.fh [.fn (.func 133) [dG g] []]] [] (Is (.b false)):=by
 refine Yg Cz ?_
 simp[Cz]
 refine Yc (f133 g hg n hn) ?_
 simp
theorem f178(g:eU)(hg:fr g)(l:List Int)(hl:∀ n∈l,0≤n∧n≤2*g.kinds.length)(h9:l.length≤9):Wf T 178 [dI l,.fn (.func 134) [] [.fh [.fn (.func 133) [dG g] []]]] [] (Is (.i (-1))):=by
 refine Yg w9 ?_
 simp[w9]
 refine fe.e (0:Int) (fun y=>[(0,dI l),(1,.fn (.func 134) [] [.fh [.fn (.func 133) [dG g] []]]),(7,.i l.length),(8,.i y)]) (fun y=>[]) (fun y=>0≤y∧y≤l.length) (fun y=>(l.length-y).toNat) ?_ ?_
 ·simp
 rintro i ⟨i0,i1⟩
 dsimp only at i0 i1 ⊢
 by_cases hi:i<l.length
 ·simp[hi]
  (with_reducible repeat' first|refine Xk ?_<;>try simp|refine Xs ?_ ?_<;>intro h<;>(try intro h')<;>(try simp[h])<;>(try omega)|refine Xg ?_|omega)
  refine Yc (f134 g hg (gt l i) (hl _ (ff i0 hi))) ?_
  simp
  (with_reducible repeat' first|refine Xk ?_<;>try simp|refine Xs ?_ ?_<;>intro h<;>(try intro h')<;>(try simp[h])<;>(try omega)|refine Xg ?_|omega)
  refine LJ.e (i+1) ?_
  exact⟨by omega,by omega,by omega⟩
 ·simp[hi]
theorem f135(g:eU)(hg:fr g)(l:List Int)(hl:∀ n∈l,0≤n∧n≤2*g.kinds.length)(h9:l.length≤9):Wf T 135 [dI l,.fn (.func 134) [] [.fh [.fn (.func 133) [dG g] []]]] [] (Is (.b false)):=by
 refine Yg w8 ?_
 simp[w8]
 refine Yc (f178 g hg l hl h9) ?_
 simp
theorem f136(g:eU)(hg:fr g)(l:List Int)(hl:oC g l):Wf T 136 [dG g,dI l] [] (Is (.b true)):=by
 have hk:=hg.kinds
 have hn:=hl.len
 refine Yg CA ?_
 simp[CA]
 (with_reducible repeat' first|refine Xk ?_<;>try simp[hn]|refine Xs ?_ ?_<;>intro h<;>(try intro h')<;>(try simp[h,hn])<;>(try omega)|refine Xg ?_|omega)
 refine fe.e (0:Int) (fun y=>[(2,.ptr 0 0 0),(14,dI l),(15,.i g.kinds.length),(16,.i y)]) (fun y=>[.row 214 0 g.cells]) (fun y=>0≤y∧y≤l.length) (fun y=>(l.length-y).toNat) ?_ ?_
 ·simp
 rintro i ⟨i0,i1⟩
 dsimp only at i0 i1 ⊢
 by_cases hi:i<l.length
 ·have ha:=hl.at_ i i0 hi
  have nM:i<g.kinds.length:=by omega
  by_cases hp:0<gt l i
  ·have rM:=ha.2.2 hp
   simp[hi]
   (with_reducible repeat' first|refine Xk ?_<;>try simp[rM,hp]|refine Xs ?_ ?_<;>intro h<;>(try intro h')<;>(try simp[h,rM,hp])<;>(try omega)|refine Xg ?_|omega)
   refine LJ.e (i+1) ?_
   exact⟨by omega,by omega,by omega⟩
  ·simp[hi]
   (with_reducible repeat' first|refine Xk ?_<;>try simp[hp]|refine Xs ?_ ?_<;>intro h<;>(try intro h')<;>(try simp[h,hp])<;>(try omega)|refine Xg ?_|omega)
   refine LJ.e (i+1) ?_
   exact⟨by omega,by omega,by omega⟩
 ·simp[show ¬ i<g.kinds.length by omega]
theorem f97(g:eU)(hg:fr g)(p:Pos)(hp:fR g p):Wf T 97 [dG g,dP p] [] (Is (.b true)):=by
 have hk:=hg.kinds
 have hr:=hg.fq
 have FU:=hp.fq
 have hs:=hp.side
 have hz:=hp.size
 have hb:=hg.ib.size
 have h4:=KX hr.1 (by omega)
 refine Yg Ee ?_
 simp[Ee,h4,hz]
 refine gZ.r rfl rfl (f135 g hg p.cs hp.cs (by omega)) (by simp) (by simp[flat]) (by simp) ?_
 simp
 refine Yt (f136 g hg p.h0 hp.h0) ?_
 simp
 refine Yt (f136 g hg p.h1 hp.h1) ?_
 simp
 (with_reducible repeat' first|refine Xk ?_<;>try simp[h4]|refine Xs ?_ ?_<;>intro h<;>(try intro h')<;>(try simp[h,h4])<;>(try omega)|refine Xg ?_|omega)
 ·simp[*]
 ·have:p.side=1:=by omega
  simp[*]
set_option maxRecDepth 10000
set_option maxHeartbeats 4000000
theorem f177(n:Int):Wf T 177 [.i n] [] (Is (.b false)):=by
 refine Yg CW ?_
 simp[CW]
theorem f131(a b:Int):Wf T 131 [.i a,.i b] [] (Is (.i (je a b))):=by
 refine Yg Cw ?_
 simp[Cw]
 refine Yc (f177 a) ?_
 simp
 refine Yc (f177 b) ?_
 simp
 (with_reducible repeat' first|refine Xk ?_<;>try simp|refine Xs ?_ ?_<;>intro h<;>(try intro h')<;>(try simp[h])<;>(try omega)|refine Xg ?_|omega)
 all_goals
  unfold je
  (repeat' split)<;>(first|rfl|(exfalso;omega))
theorem f130(a b:List Int)(ha:a.length<2 ^ 40)(hb:b.length<2 ^ 40):Wf T 130 [dI a,dI b] [] (Is (.i (iY a b))):=by
 refine Yg Cv ?_
 simp[Cv]
 refine fe.e (0:Int) (fun i=>[(0,dI a),(1,dI b),(9,dI a),(10,.i a.length),(11,.i i)]) (fun i=>[]) (fun i=>0≤i∧i≤a.length∧i≤b.length∧a.take i.toNat=b.take i.toNat) (fun i=>a.length-i.toNat) ?_ ?_
 ·simp
 rintro i ⟨h0,h1,xL,h2⟩
 have e:=Pq h2 (by omega) (by omega)
 by_cases hi:i<a.length
 ·by_cases hj:i<b.length
  ·simp[hi,hj]
   (with_reducible repeat' first|refine Xk ?_<;>try simp|refine Xs ?_ ?_<;>intro h<;>(try intro h')<;>(try simp[h])<;>(try omega)|refine Xg ?_|omega)
   refine Yc (f131 (gt a i) (gt b i)) ?_
   simp
   by_cases hz:je (gt a i) (gt b i)=0
   ·simp[hz]
    (with_reducible repeat' first|refine Xk ?_<;>try simp|refine Xs ?_ ?_<;>intro h<;>(try intro h')<;>(try simp[h])<;>(try omega)|refine Xg ?_|omega)
    refine LJ.e (i+1) ?_
    refine⟨by omega,by omega,by omega,by omega,?_⟩
    rw[gE h0 hi,gE h0 hj,h2,tf.1 hz]
   ·simp[hz]
    rw[e,lB h0 hi,lB h0 hj,iY,if_neg (fun h=>hz (tf.2 h))]
  ·simp[hi,hj]
   (with_reducible repeat' first|refine Xk ?_<;>try simp|refine Xs ?_ ?_<;>intro h<;>(try intro h')<;>(try simp[h])<;>(try omega)|refine Xg ?_|omega)
   have h5:je ((a.drop i.toNat).length) ((b.drop i.toNat).length)=1:=by
    simp only[br,je]
    rw[if_neg (by omega),if_pos (by omega)]
   rw[e,J4 (by simp only[br];omega),h5]
 ·simp[hi]
  (with_reducible repeat' first|refine Xk ?_<;>try simp|refine Xs ?_ ?_<;>intro h<;>(try intro h')<;>(try simp[h])<;>(try omega)|refine Xg ?_|omega)
  all_goals
   rw[e,J4 (by simp only[br];omega)]
   simp only[br,je]
   (repeat' split)<;>omega
theorem f129(l:List Int)(hl:l.length<2 ^ 40):Wf T 129 [dI l] [] (Is (.i (lg l))):=by
 refine Yg Ct ?_
 simp[Ct]
 refine fe.e (0:Int) (fun i=>[(3,.i 0),(6,dI l),(7,.i l.length),(8,.i i)]) (fun i=>[]) (fun i=>0≤i∧i≤l.length∧lg l=lg (l.drop i.toNat)) (fun i=>l.length-i.toNat) ?_ ?_
 ·simp
 rintro i ⟨h0,h1,h2⟩
 by_cases hi:i<l.length
 ·rw[lB h0 hi]at h2
  by_cases hz:gt l i=0
  ·simp[hi,hz]
   (with_reducible repeat' first|refine Xk ?_<;>try simp|refine Xs ?_ ?_<;>intro h<;>(try intro h')<;>(try simp[h])<;>(try omega)|refine Xg ?_|omega)
   refine LJ.e (i+1) ?_
   refine⟨by omega,by omega,by omega,?_⟩
   rw[h2]
   simp only[lg,hz]
   rw[if_neg (by simp),show(i+1).toNat=i.toNat+1 by omega]
  ·simp[hi,hz]
   (with_reducible repeat' first|refine Xk ?_<;>try simp|refine Xs ?_ ?_<;>intro h<;>(try intro h')<;>(try simp[h])<;>(try omega)|refine Xg ?_|omega)
   rw[h2]
   simp[lg,hz]
 ·simp[hi]
  rw[h2,b7 (by omega)]
  rfl
theorem f88(p q:Pos)(hp:Small p)(hq:Small q):Wf T 88 [dP p,dP q] [] (Is (.i (gp p q))):=by
 refine Yg D7 ?_
 simp[D7]
 refine Yt (f130 _ _ hp.1 hq.1) ?_
 simp
 refine Yt (f130 _ _ hp.2.1 hq.2.1) ?_
 simp
 refine Yt (f130 _ _ hp.2.2 hq.2.2) ?_
 simp
 refine Yt (f131 _ _) ?_
 simp
 refine Yt (f131 _ _) ?_
 simp
 refine gZ.r rfl rfl (f129 [iY p.cs q.cs,iY p.h0 q.h0,iY p.h1 q.h1,je p.fq q.fq,je p.side q.side] (by simp)) (by simp;exact S1 _ rfl rfl) (by simp[flat]) (by simp) ?_
 simp
 rfl
theorem f100(l:List Pos)(hl:l.length<2 ^ 40)(hs:∀ p∈l,Small p)(uz:jn l):Wf T 100 [gb l] [] (Is (.b true)):=by
 refine Yg Ce ?_
 simp[Ce]
 (with_reducible repeat' first|refine Xk ?_<;>try simp|refine Xs ?_ ?_<;>intro h<;>(try intro h')<;>(try simp[h])<;>(try omega)|refine Xg ?_|omega)
 refine fe.e (0:Int) (fun i=>[(0,gb l),(6,.i (l.length-1)),(7,.i i)]) (fun i=>[]) (fun i=>0≤i) (fun i=>l.length-i.toNat) ?_ ?_
 ·simp
 rintro i h0
 by_cases hi:i<l.length-1
 ·simp[hi]
  (with_reducible repeat' first|refine Xk ?_<;>try simp|refine Xs ?_ ?_<;>intro h<;>(try intro h')<;>(try simp[h])<;>(try omega)|refine Xg ?_|omega)
  refine Yt (f88 _ _ (hs _ (ff h0 (by omega))) (hs _ (ff (n:=i+1) (by omega) (by omega)))) ?_
  simp
  have:=uz (i+1) (by omega) (by omega)
  rw[dj]at this
  simp[show ¬ 0≤gp (gt l i) (gt l (i+1))by omega]
  (with_reducible repeat' first|refine Xk ?_<;>try simp|refine Xs ?_ ?_<;>intro h<;>(try intro h')<;>(try simp[h])<;>(try omega)|refine Xg ?_|omega)
  refine LJ.e (i+1) ?_
  exact⟨by omega,by omega⟩
 ·simp[hi]
theorem f96(g:eU)(hg:fr g)(p:Pos)(hp:fR g p):Wf T 96 [dP p,.fh g.cells] [] (Is (.b false)):=by
 refine Yg Ed ?_
 simp[Ed]
 refine Yc (f97 g hg p hp) ?_
 simp
theorem f147(g:eU)(hg:fr g)(l:List Pos)(hl:∀ p∈l,fR g p)(h9:l.length<2 ^ 40):Wf T 147 [gb l,.fn (.func 96) [] [.fh g.cells]] [] (Is (.i (-1))):=by
 refine Yg CM ?_
 simp[CM]
 refine fe.e (0:Int) (fun y=>[(0,gb l),(1,.fn (.func 96) [] [.fh g.cells]),(7,.i l.length),(8,.i y)]) (fun y=>[]) (fun y=>0≤y∧y≤l.length) (fun y=>(l.length-y).toNat) ?_ ?_
 ·simp
 rintro i ⟨i0,i1⟩
 by_cases hi:i<l.length
 ·simp[hi]
  (with_reducible repeat' first|refine Xk ?_<;>try simp|refine Xs ?_ ?_<;>intro h<;>(try intro h')<;>(try simp[h])<;>(try omega)|refine Xg ?_|omega)
  refine Yc (f96 g hg (gt l i) (hl _ (ff i0 hi))) ?_
  simp
  (with_reducible repeat' first|refine Xk ?_<;>try simp|refine Xs ?_ ?_<;>intro h<;>(try intro h')<;>(try simp[h])<;>(try omega)|refine Xg ?_|omega)
  refine LJ.e (i+1) ?_
  exact⟨by omega,by omega,by omega⟩
 ·simp[hi]
theorem f99(g:eU)(hg:fr g)(l:List Pos)(hl:∀ p∈l,fR g p)(h9:l.length<2 ^ 40):Wf T 99 [gb l,.fn (.func 96) [] [.fh g.cells]] [] (Is (.b false)):=by
 refine Yg Eh ?_
 simp[Eh]
 refine Yc (f147 g hg l hl h9) ?_
 simp
set_option maxRecDepth 10000
set_option maxHeartbeats 4000000
def mz(l:List e9):D:=dN 8 e9.cells l
@[simp] theorem SB(l:List e9):closed (mz l)=true:=vp (fun a=>by simp[e9.cells,fy]) l
theorem f132(l:List Int)(h:0<l.length)(h2:l.length<2 ^ 40):Wf T 132 [dI l] [] (fun d H=>d = .eT 0 1 1 0 l.length∧H = [.row 3 1 (cl f1 l)]):=by
 refine Yg Cx ?_
 simp[Cx]
 refine oA.i (a:=.b false) (by cases l with|nil=>exact absurd h (by simp)|cons a r=>rfl) ?_
 simp
 (with_reducible repeat' first|refine Xk ?_<;>try simp|refine Xs ?_ ?_<;>intro h<;>(try intro h')<;>(try simp[h])<;>(try omega)|refine Xg ?_|omega)
theorem f91(s:e9)(hs:Small s.p)(h0:0<s.p.cs.length∧0<s.p.h0.length∧0<s.p.h1.length):Wf T 91 [.agg s.cells] [] (fun d H=>d = .agg [.eT 0 1 1 0 s.p.cs.length,.eT 1 1 1 0 s.p.h0.length,.eT 2 1 1 0 s.p.h1.length,.i s.p.fq,.i s.p.side,.i s.kind,.i s.cur,.b s.iu]∧H = [.row 3 1 (cl f1 s.p.cs),.row 3 1 (cl f1 s.p.h0),.row 3 1 (cl f1 s.p.h1)]):=by
 refine Yg D9 ?_
 simp[D9,e9.cells]
 refine Yn (f132 s.p.cs h0.1 hs.1) ?_
 simp
 refine tJ.n rfl rfl (f132 s.p.h0 h0.2.1 hs.2.1) (by simp) (by simp) ?_
 simp
 refine tJ.n rfl rfl (f132 s.p.h1 h0.2.2 hs.2.2) (by simp) (by simp) ?_
 simp
theorem f241(s:e9)(b:Bool):Wf T 241 [.agg s.cells,.b b] [] (Is (mz (if b then [s]else []))):=by
 refine Yg Dr ?_
 simp[Dr,e9.cells]
 cases b
 ·simp
  rfl
 ·simp
  rfl
theorem f243(s:e9)(h:0≤s.cur∧s.cur<s.p.cs.length)(hs:Small s.p):Wf T 243 [.agg s.cells] [] (Is (.tup [.i (fo (gt s.p.cs s.cur)),.i (iA (gt s.p.cs s.cur))])):=by
 refine Yg Dt ?_
 simp[Dt,e9.cells]
 (with_reducible repeat' first|refine Xk ?_<;>try simp|refine Xs ?_ ?_<;>intro h<;>(try intro h')<;>(try simp[h])<;>(try omega)|refine Xg ?_|omega)
 refine Yc (f84 _) ?_
 simp
theorem f199(g:eU)(hg:fr g)(s:e9)(hs:iD g s)(n:Int):Wf T 199 [.agg s.cells,dG g,.i n] [] (Is (mz (gF g s (1,n)))):=by
 refine Yg Da ?_
 simp[Da,e9.cells]
 refine Yc (f240 g hg.ib s.p.side n s.cur) ?_
 simp
 refine fw.c rfl rfl (f241 { s with cur:=jB g s.p.side n s.cur } (decide (0≤jB g s.p.side n s.cur))) (by simp[e9.cells]) (by simp) ?_
 simp[gF]
theorem f201(g:eU)(hg:fr g)(s:e9)(hs:iD g s)(n:Int):Wf T 201 [.agg s.cells,dG g,.i n] [] (Is (mz (gF g s (3,n)))):=by
 have gy:=hs.p.size
 have kQ:=hs.cur
 refine Yg Dc ?_
 simp[Dc,e9.cells]
 (with_reducible repeat' first|refine Xk ?_<;>try simp|refine Xs ?_ ?_<;>intro h<;>(try intro h')<;>(try simp[h])<;>(try omega)|refine Xg ?_|omega)
 refine gZ.c rfl rfl (f241 s (decide (gt s.p.cs s.cur=0))) (by simp[e9.cells]) (by simp) ?_
 simp[gF]
theorem f202(g:eU)(hg:fr g)(s:e9)(hs:iD g s)(n:Int):Wf T 202 [.agg s.cells,dG g,.i n] [] (Is (mz (gF g s (4,n)))):=by
 have gy:=hs.p.size
 have kQ:=hs.cur
 have gH:=hs.p.side
 refine Yg Dd ?_
 simp[Dd,e9.cells]
 refine fw.c rfl rfl (f243 s (by omega) (hs.p.small hg)) (by simp[e9.cells]) (by simp) ?_
 simp
 (with_reducible repeat' first|refine Xk ?_<;>try simp|refine Xs ?_ ?_<;>intro h<;>(try intro h')<;>(try simp[h])<;>(try omega)|refine Xg ?_|omega)
 refine fw.c rfl rfl (f241 s (decide (iA (gt s.p.cs s.cur)=1-s.p.side))) (by simp[e9.cells]) (by simp) ?_
 simp[gF]
theorem f203(g:eU)(hg:fr g)(s:e9)(hs:iD g s)(n:Int):Wf T 203 [.agg s.cells,dG g,.i n] [] (Is (mz (gF g s (5,n)))):=by
 have gy:=hs.p.size
 have kQ:=hs.cur
 refine Yg De ?_
 simp[De,e9.cells]
 refine fw.c rfl rfl (f243 s (by omega) (hs.p.small hg)) (by simp[e9.cells]) (by simp) ?_
 simp
 refine fw.c rfl rfl (f241 s (decide (iA (gt s.p.cs s.cur)=s.p.side))) (by simp[e9.cells]) (by simp) ?_
 simp[gF]
theorem f206(g:eU)(s:e9)(n:Int):Wf T 206 [.agg s.cells,dG g,.i n] [] (Is (mz (gF g s (8,n)))):=by
 refine Yg Dg ?_
 simp[Dg,e9.cells]
 rfl
theorem f207(g:eU)(hg:fr g)(s:e9)(hs:iD g s)(n:Int)(hn:0≤n∧n<g.fq):Wf T 207 [.agg s.cells,dG g,.i n] [] (Is (mz (gF g s (9,n)))):=by
 have hr:=hs.p.fq
 have pF:=hg.fq
 have h5:=yA pF.1 (by omega)
 have ha:=QE (r:=s.p.fq) (n:=n) hr.1 (by omega) hn.1 (by omega)
 refine Yg Dh ?_
 simp[Dh,e9.cells]
 (with_reducible repeat' first|refine Xk ?_<;>try simp|refine Xs ?_ ?_<;>intro h<;>(try intro h')<;>(try simp[h])<;>(try omega)|refine Xg ?_|omega)
 refine gZ.c rfl rfl (f241 s (decide (bits BinOp.and IntKind.i64 (yJ IntKind.i64 s.p.fq n) 1=1))) (by simp[e9.cells]) (by simp) ?_
 simp[gF,ha]
theorem f208(g:eU)(hg:fr g)(s:e9)(hs:iD g s)(n:Int)(hn:0≤n∧n<g.fq):Wf T 208 [.agg s.cells,dG g,.i n] [] (Is (mz (gF g s (10,n)))):=by
 have hr:=hs.p.fq
 have pF:=hg.fq
 have h5:=yA pF.1 (by omega)
 have ha:=QF (r:=s.p.fq) (n:=n) hr.1 (by omega) hn.1 (by omega)
 refine Yg Di ?_
 simp[Di,e9.cells,ha]
 (with_reducible repeat' first|refine Xk ?_<;>try simp[ha]|refine Xs ?_ ?_<;>intro h<;>(try intro h')<;>(try simp[h,ha])<;>(try omega)|refine Xg ?_|omega)
 rfl
theorem f205(g:eU)(hg:fr g)(s:e9)(hs:iD g s)(n:Int):Wf T 205 [.agg s.cells,dG g,.i n] [] (Is (mz (gF g s (7,n)))):=by
 have gy:=hs.p.size
 have kQ:=hs.cur
 have jy:=hs.p.small hg
 have oG:=hg.ib.size
 have hk:=hg.kinds
 have l0:=hs.p.h0.len
 have l1:=hs.p.h1.len
 have ht:=hg.ib.to s.p.side n s.cur
 have e:gF g s (7,n)=ph g s n:=by simp[gF]
 rw[e]
 refine Yg Df ?_
 simp[Df,e9.cells]
 refine Yc (f240 g hg.ib s.p.side n s.cur) ?_
 simp
 (with_reducible repeat' first|refine Xk ?_<;>try simp|refine Xs ?_ ?_<;>intro h<;>(try intro h')<;>(try simp[h])<;>(try omega)|refine Xg ?_|omega)
 ·rw[ph,if_pos (by simp_all)];rfl
 ·rw[ph,if_pos (by simp_all)];rfl
 ·have q0:=gI (l:=s.p.cs) (n:=jB g s.p.side n s.cur) (v:=gt s.p.cs s.cur) (by omega) (by omega)
  have q1:=gI (l:=pt s.p.cs (jB g s.p.side n s.cur) (gt s.p.cs s.cur)) (n:=s.cur) (v:=0) kQ.1 (by omega)
  refine Yn (f91 s jy (by omega)) ?_
  simp
  (with_reducible repeat' first|refine Xk ?_<;>try simp[q0,q1]|refine Xs ?_ ?_<;>intro h<;>(try intro h')<;>(try simp[h,q0,q1])<;>(try omega)|refine Xg ?_|omega)
  simp[ph, *]
  rfl
 ·rw[ph,if_pos (by simp_all)];rfl
theorem f204(g:eU)(hg:fr g)(s:e9)(hs:iD g s)(n:Int):Wf T 204 [.agg s.cells,dG g,.i n] [] (Is (mz (gF g s (6,n)))):=by
 have gy:=hs.p.size
 have kQ:=hs.cur
 have jy:=hs.p.small hg
 have oG:=hg.ib.size
 have nz:=hg.kinds
 have l0:=hs.p.h0.len
 have l1:=hs.p.h1.len
 have ic:=hs.p.cs _ (ff kQ.1 (by omega))
 have gH:=hs.p.side
 have e:gF g s (6,n)=oS g s:=by simp[gF]
 rw[e]
 refine Yz zb (gY 52 [2,3,4] zb.body) ?_
 simp[zb,gY,jc,lW,lX,me,ky,e9.cells]
 refine fw.c rfl rfl (f243 s (by omega) jy) (by simp[e9.cells]) (by simp) ?_
 simp
 by_cases hx:iA (gt s.p.cs s.cur)=1-s.p.side
 ·have AE:0≤fo (gt s.p.cs s.cur):=by
   unfold iA at hx;unfold fo
   split at hx<;>rename_i h5
   ·rw[if_pos h5];omega
   ·omega
  have hm:fo (gt s.p.cs s.cur)<g.kinds.length:=r7 ic.2 nz.1
  have JA:s.p.side=0∨s.p.side=1:=by omega
  have q0:=gI (l:=s.p.cs) (n:=s.cur) (v:=0) kQ.1 (by omega)
  simp[hx]
  (with_reducible repeat' first|refine Xk ?_<;>try simp|refine Xs ?_ ?_<;>intro h<;>(try intro h')<;>(try simp[h])<;>(try omega)|refine Xg ?_|omega)
  refine Yn (f91 s jy (by omega)) ?_
  simp
  (with_reducible repeat' first|refine Xk ?_<;>try simp[q0]|refine Xs ?_ ?_<;>intro h<;>(try intro h')<;>(try simp[h,q0])<;>(try omega)|refine Xg ?_|omega)
  ·have rM:=h
   rcases JA with e|e
   ·have ha:=hs.p.h0.at_ _ (by omega) (show fo (gt s.p.cs s.cur)<s.p.h0.length by omega)
    have q1:=xH (l:=s.p.h0) (n:=fo (gt s.p.cs s.cur)) (v:=gt s.p.h0 (fo (gt s.p.cs s.cur))+1) (by omega) (by omega)
    have q2:=gI (l:=s.p.h0) (n:=fo (gt s.p.cs s.cur)) (v:=gt s.p.h0 (fo (gt s.p.cs s.cur))+1) (by omega) (by omega)
    simp[e,q0,q1,q2]
    (with_reducible repeat' first|refine Xk ?_<;>try simp[q0,q1,q2]|refine Xs ?_ ?_<;>intro h<;>(try intro h')<;>(try simp[h,q0,q1,q2])<;>(try omega)|refine Xg ?_|omega)
    refine gZ.c rfl rfl (f241 { p:={ s.p with cs:=pt s.p.cs s.cur 0,h0:=pt s.p.h0 (fo (gt s.p.cs s.cur)) (gt s.p.h0 (fo (gt s.p.cs s.cur))+1),side:=0 },kind:=s.kind,cur:=s.cur,iu:=true } (decide (gt s.p.h0 (fo (gt s.p.cs s.cur))+1≤8))) (by simp[e9.cells]) (by simp) ?_
    simp[oS,hx,rM,Pos.hand,Pos.jG,e]
    done
   ·have ha:=hs.p.h1.at_ _ (by omega) (show fo (gt s.p.cs s.cur)<s.p.h1.length by omega)
    have q1:=xH (l:=s.p.h1) (n:=fo (gt s.p.cs s.cur)) (v:=gt s.p.h1 (fo (gt s.p.cs s.cur))+1) (by omega) (by omega)
    have q2:=gI (l:=s.p.h1) (n:=fo (gt s.p.cs s.cur)) (v:=gt s.p.h1 (fo (gt s.p.cs s.cur))+1) (by omega) (by omega)
    simp[e,q0,q1,q2]
    (with_reducible repeat' first|refine Xk ?_<;>try simp[q0,q1,q2]|refine Xs ?_ ?_<;>intro h<;>(try intro h')<;>(try simp[h,q0,q1,q2])<;>(try omega)|refine Xg ?_|omega)
    refine gZ.c rfl rfl (f241 { p:={ s.p with cs:=pt s.p.cs s.cur 0,h1:=pt s.p.h1 (fo (gt s.p.cs s.cur)) (gt s.p.h1 (fo (gt s.p.cs s.cur))+1),side:=1 },kind:=s.kind,cur:=s.cur,iu:=true } (decide (gt s.p.h1 (fo (gt s.p.cs s.cur))+1≤8))) (by simp[e9.cells]) (by simp) ?_
    simp[oS,hx,rM,Pos.hand,Pos.jG,e]
    done
  ·simp[oS,hx,h,q0]
   rfl
 ·simp[hx]
  (with_reducible repeat' first|refine Xk ?_<;>try simp|refine Xs ?_ ?_<;>intro h<;>(try intro h')<;>(try simp[h])<;>(try omega)|refine Xg ?_|omega)
  rw[oS,if_pos hx];rfl
set_option maxRecDepth 10000
set_option maxHeartbeats 4000000
theorem f259(g:eU)(s d c:Int):Wf T 259 [g.ib,.i s,.i d,.i c] [] (Is (.fn (.func 265) [] [.fh [.i g.size,.sl 1 (g.next.map fI),dI g.gV],.fh [.i s],.fh [.i d],.fh [.i c]])):=by
 refine Yg DB ?_
 simp[DB]
theorem f266(l:List Int)(n:Int)(hl:l.length<2 ^ 40):Wf T 266 [dI l,.i n] [] (Ey (fun r:Int=>.i r) fun r=>0≤r↔n∈l):=by
 refine Yg xb ?_
 simp[xb]
 refine fe.e (0:Int) (fun y=>[(0,dI l),(1,.i n),(7,.i l.length),(8,.i y)]) (fun y=>[]) (fun y=>0≤y∧y≤l.length∧n ∉ l.take y.toNat) (fun y=>(l.length-y).toNat) ?_ ?_
 ·simp
 rintro i ⟨i0,i1,i2⟩
 by_cases hi:i<l.length
 ·simp[hi]
  (with_reducible repeat' first|refine Xk ?_<;>try simp|refine Xs ?_ ?_<;>intro h<;>(try intro h')<;>(try simp[h])<;>(try omega)|refine Xg ?_|omega)
  ·exact Ey.i i rfl rfl ⟨fun _=>by have:=ff i0 hi;simp_all,fun _=>i0⟩
  ·refine LJ.e (i+1) ?_
   refine⟨by omega,by omega,by omega,?_⟩
   rw[gE i0 hi]
   simp[i2]
   omega
 ·simp[hi]
  rw[js (by omega)]at i2
  exact Ey.i (-1) rfl rfl ⟨fun h=>by omega,fun h=>absurd h i2⟩
theorem f260(l:List Int)(n:Int)(hl:l.length<2 ^ 40):Wf T 260 [dI l,.i n] [] (Is (.b (decide (n∈l)))):=by
 refine Yg xa ?_
 simp[xa]
 refine Yq (f266 l n hl) fun r hr=>?_
 simp
 simp[hr]
theorem TF(n:Int):Wf T 266 [.emp,.i n] [] (Is (.i (-1))):=by
 refine Yg xb ?_
 simp[xb]
 refine fe.un ?_
 refine iO.u ?_
 simp
theorem TE(n:Int):Wf T 260 [.emp,.i n] [] (Is (.b false)):=by
 refine Yg xa ?_
 simp[xa]
 refine Yc (TF n) ?_
 simp
theorem f265(g:eU)(hg:l7 g)(s d c:Int):Wf T 265 [.gP 4,.fh [.i g.size,.sl 1 (g.next.map fI),dI g.gV],.fh [.i s],.fh [.i d],.fh [.i c]]
  [.row 37 0 [.i g.size,.sl 1 (g.next.map fI),dI g.gV],.row 3 0 [.i c],.row 33 0 [.emp],.jv,.gg 15488 [(7,.ptr 1 0 0),(9,.ptr 2 0 0)] .ready]
  (fun _ H'=>∃ st,(st = .ready∨st = .tV 0)∧H' = [.row 37 0 [.i g.size,.sl 1 (g.next.map fI),dI g.gV],.row 3 0 [.i c],.row 33 0 [if jz g s d c = []then .emp else .eT 5 ((jz g s d c).length-1) 1 0 (jz g s d c).length],.jv,.gg 15488 [(7,.ptr 1 0 0),(9,.ptr 2 0 0)] st]++(if jz g s d c = []then []else [.row 3 ((jz g s d c).length-1) (cl f1 (jz g s d c))])):=by
 have hb:=hg.size
 refine Yg DE ?_
 simp[DE]
 refine Yr (f240 g hg s d c) ?_
 simp
 refine fe.e ((0,jB g s d c,[]):Nat×Int×List Int) (fun x=>[(0,.gP 4),(1,.fh [.i g.size,.sl 1 (g.next.map fI),dI g.gV]),(2,.fh [.i s]),(3,.fh [.i d]),(6,.i x.2.1)]) (fun x=>[.row 37 0 [.i g.size,.sl 1 (g.next.map fI),dI g.gV],.row 3 0 [.i c],.row 33 0 [if x.2.2 = []then .emp else .eT 5 (x.2.2.length-1) 1 0 x.2.2.length],.jv,.gg 15488 [(7,.ptr 1 0 0),(9,.ptr 2 0 0)] .ready]++(if x.2.2 = []then []else [.row 3 (x.2.2.length-1) (cl f1 x.2.2)])) (fun x=>x.1=x.2.2.length∧x.2.1<g.size∧x.2.2.Nodup∧(∀ y∈x.2.2,0≤y∧y<g.size)∧jz g s d c=pK g s d c (10-x.1) x.2.1 x.2.2) (fun x=>10-x.1) ?_ ?_
 ·have:=hg.to s d c
  simp[jz];omega
 rintro⟨m,x,out⟩ ⟨h0,h1,h2,h3,h4⟩
 dsimp only at h0 h1 h2 h3 h4 ⊢
 have hm:out.length≤9:=uL 9 out h2 (fun y hy=>by have:=h3 y hy;omega)
 have e:=h4
 rw[show 10-m=(9-m)+1 by omega,pK]at e
 have kx:=hg.to s d x
 by_cases ho:out = []
 ·subst ho
  by_cases hx:0≤x
  ·simp[hx]
   refine nJ.r (rf:=15488) (env0:=[(7,.ptr 1 0 0),(9,.ptr 2 0 0)]) (Rd:=rn) (by simp) rfl rfl rn.a rn.b (lJ rfl) (lJ rfl) ?_
   simp[rn]
   by_cases hc:x=c
   ·have e3:jz g s d c = []:=by rw[e,if_neg (fun h=>h.2.1 hc)]
    simp[hc,e3]
   ·have e2:jz g s d c=pK g s d c (9-m) (jB g s d x) [x]:=by rw[e,if_pos ⟨hx,hc,by simp⟩];rfl
    simp[hc]
    refine Yc (TE x) ?_
    simp
    (with_reducible repeat' first|refine Xk ?_<;>try simp|refine Xs ?_ ?_<;>intro h<;>(try intro h')<;>(try simp[h])<;>(try omega)|refine Xg ?_|omega)
    refine Yr (f240 g hg s d x) ?_
    simp
    refine LJ.i (m+1,jB g s d x,[x]) (by first|rfl|simp[gL]) (by first|rfl|simp[gL]) rfl rfl ?_
    dsimp only
    refine⟨by simp at h0;omega,by simp at h0;simp;omega,kx.2,by simp,by simp;omega,?_⟩
    rw[e2];congr 1;omega
  ·have e3:jz g s d c = []:=by rw[e,if_neg (fun h=>hx h.1)]
   simp[hx,e3]
 ·simp only[if_neg ho,bK,aU]
  by_cases hx:0≤x
  ·simp[hx]
   refine nJ.r (rf:=15488) (env0:=[(7,.ptr 1 0 0),(9,.ptr 2 0 0)]) (Rd:=rn) (by simp) rfl rfl rn.a rn.b (lJ rfl) (lJ rfl) ?_
   simp[rn]
   by_cases hc:x=c
   ·have e3:jz g s d c=out:=by rw[e,if_neg (fun h=>h.2.1 hc)]
    simp[hc,e3,ho]
   ·simp[hc]
    refine Yr (f260 out x (by omega)) ?_
    simp
    refine X2.z hc ?_
    simp
    by_cases fF:x∈out
    ·have e3:jz g s d c=out:=by rw[e,if_neg (fun h=>h.2.2 fF)]
     simp[fF,e3,ho]
    ·have e2:jz g s d c=pK g s d c (9-m) (jB g s d x) (out ++ [x]):=by rw[e,if_pos ⟨hx,hc,fF⟩]
     have hl:0<out.length:=az.2 ho
     simp[fF]
     (with_reducible repeat' first|refine Xk ?_<;>try simp|refine Xs ?_ ?_<;>intro h<;>(try intro h')<;>(try simp[h])<;>(try omega)|refine Xg ?_|omega)
     refine Yr (f240 g hg s d x) ?_
     simp
     refine LJ.i (m+1,jB g s d x,out ++ [x]) (by first|rfl|simp[show out.length-1+1=out.length by omega]) (by first|rfl|simp[show out.length-1+1=out.length by omega]) rfl rfl ?_
     dsimp only
     refine⟨by omega,by simp;omega,kx.2,?_,fun y hy=>?_,?_⟩
     ·rw[aP];exact⟨h2,by simp,fun a ha b hb=>by rw[List.mem_singleton.1 hb];rintro rfl;exact fF ha⟩
     ·rcases List.mem_append.1 hy with hy|hy
      ·exact h3 y hy
      ·rw[List.mem_singleton.1 hy];omega
     ·rw[e2];congr 1;omega
  ·have e3:jz g s d c=out:=by rw[e,if_neg (fun h=>hx h.1)]
   simp[hx,e3,ho]
theorem f242(g:eU)(hg:l7 g)(s d c:Int):Wf T 242 [g.ib,.i s,.i d,.i c] [] (Is (dN 1 f1 (jz g s d c))):=by
 refine Yg Ds ?_
 simp[Ds]
 refine Yc (f259 g s d c) ?_
 simp
 refine pY.r (f:=265) (first:=[]) (cap:=[.fh [.i g.size,.sl 1 (g.next.map fI),dI g.gV],.fh [.i s],.fh [.i d],.fh [.i c]]) rfl rfl rfl rfl ?_
 simp
 refine Wf.mono (f265 g hg s d c) ?_
 rintro _ H' ⟨st,fg,rfl⟩
 refine⟨[(7,.ptr 1 0 0),(9,.ptr 2 0 0)],st,by simp,?_⟩
 by_cases h:jz g s d c = []
 ·rcases fg with rfl|rfl
  ·simp[h]
   rfl
  ·simp[h]
   rfl
 ·have e:dI (jz g s d c)=dN 1 f1 (jz g s d c):=by
   revert h
   cases jz g s d c with
   | nil=>intro h;exact absurd rfl h
   | cons a r=>intro _;rfl
  rcases fg with rfl|rfl
  ·simp[h,e]
  ·simp[h,e]
@[simp] theorem aip(l:List Int):closed (dN 1 f1 l)=true:=vp (fun a=>by simp[fy]) l
theorem Ig{l:List e9}(h:l≠[]):iT l=mz l:=by
 cases l with
 | nil=>exact absurd rfl h
 | cons a r=>rfl
theorem f200(g:eU)(hg:fr g)(s:e9)(hs:iD g s)(n:Int):Wf T 200 [.agg s.cells,dG g,.i n] [] (Is (mz (gF g s (2,n)))):=by
 have gy:=hs.p.size
 have oG:=hg.ib.size
 have e:gF g s (2,n)=nD s (jz g s.p.side n s.cur):=by simp[gF]
 have fF:∀ y∈jz g s.p.side n s.cur,0≤y∧y<g.size:=fun y hy=>J1 hg.ib hy
 have hlen:(jz g s.p.side n s.cur).length≤10:=J2
 rw[e]
 refine Yg Db ?_
 simp[Db,e9.cells]
 refine Yc (f242 g hg.ib s.p.side n s.cur) ?_
 simp
 generalize jz g s.p.side n s.cur=l at *
 refine fe.e ((0,[]):Int×List e9) (fun y=>[(3,.ptr 0 0 0),(7,if y.1=0 then .emp else .eT 2 (y.2.length-1) 8 0 y.2.length),(19,dN 1 f1 l),(20,.i l.length),(21,.i y.1)]) (fun y=>.row 171 0 s.cells :: .row 41 0 g.cells::(if y.1=0 then []else [.row 171 (y.2.length-1) (cl e9.cells y.2)])) (fun y=>0≤y.1∧y.1≤l.length∧y.2.length=y.1.toNat∧nD s l=y.2++nD s (l.drop y.1.toNat)) (fun y=>(l.length-y.1).toNat) ?_ ?_
 ·simp
 rintro⟨i,st⟩ ⟨i0,i1,i2,i3⟩
 dsimp only at i0 i1 i2 i3 ⊢
 by_cases hi:i<l.length
 ·have hc:=fF _ (ff i0 hi)
  rw[lB i0 hi,nD]at i3
  by_cases hz:i=0
  ·have:st = []:=aC.1 (by omega)
   subst hz;subst this
   simp[hi,e9.cells]
   (with_reducible repeat' first|refine Xk ?_<;>try simp|refine Xs ?_ ?_<;>intro h<;>(try intro h')<;>(try simp[h])<;>(try omega)|refine Xg ?_|omega)
   ·refine LJ.i (1,[{ s with cur:=gt l 0 }]) (by first|rfl|simp[gL,e9.cells]) (by first|rfl|simp[gL,e9.cells]) rfl rfl ?_
    refine⟨by dsimp only;omega,by dsimp only;omega,by dsimp only;omega,rfl,?_⟩
    rw[i3,if_pos h];rfl
   ·rw[i3,if_neg h];rfl
  ·have hl:0<st.length:=by omega
   rw[if_neg hz,if_neg hz]
   simp[hi,e9.cells]
   (with_reducible repeat' first|refine Xk ?_<;>try simp|refine Xs ?_ ?_<;>intro h<;>(try intro h')<;>(try simp[h])<;>(try omega)|refine Xg ?_|omega)
   ·refine LJ.i (i+1,st ++ [{ s with cur:=gt l i }]) (by first|rfl|simp[show ¬ (i+1=0)by omega,show st.length-1+1=st.length by omega,e9.cells]) (by first|rfl|simp[show ¬ (i+1=0)by omega,show st.length-1+1=st.length by omega,e9.cells]) rfl rfl ?_
    refine⟨by dsimp only;omega,by dsimp only;omega,by dsimp only;omega,by simp;omega,?_⟩
    rw[i3,if_pos h,show(i+1).toNat=i.toNat+1 by omega];simp
   ·rw[i3,if_neg h,← Ig (by simp)]
    simp[iT,e9.cells]
 ·rw[b7 (by omega),nD,aw]at i3
  by_cases hz:i=0
  ·have:st = []:=aC.1 (by omega)
   subst hz;subst this
   simp[show ¬ 0<l.length by omega,e9.cells]
   rw[i3];rfl
  ·rw[if_neg hz,if_neg hz]
   simp[hi,e9.cells]
   rw[i3,Ig (by intro h;rw[h]at i2;simp at i2;omega)]
