/- Part 18 of the proof of skewer.skewerlaw15.TableAgain. -/
import Derived.Test.YtnaefnajkaohgaaGreatDoorD17
import Derived.Test.YtnaefnajkaohgaaGreatDoorD15
import Derived.Test.YtnaefnajkaohgaaGreatDoorD12
set_option linter.all false
namespace Go.Proofs.YtnaefnajkaohgaaGreatDoor
open Go Go.AL Classical
set_option maxRecDepth 10000
set_option maxHeartbeats 1000000
@[simp] theorem agU(n:Int)(nx:List (List Int))(tn:List Int):closed (bD n nx tn)=true:=by simp[bD]
theorem f104(w vm c:Int)(hw:0≤w∧w<256)(hh:0≤vm∧vm<256)(hc:0≤c∧c<256):Wf T 104 [.val (.int .u8 w),.val (.int .u8 vm),.val (.int .u8 c)] [] (Ey (fun x:Int×List (List Int)×List Int=>bD x.1 x.2.1 x.2.2) fun x=>lE (vK x.1 x.2.1 x.2.2)):=by
 have w1:=jw (a:=w) (b:=3) hw.1
 have h1:=jw (a:=vm) (b:=3) hh.1
 have w2:IntKind.i64.wrap (e7 w 3)=e7 w 3:=nZ ⟨by omega,by omega⟩
 have h2:IntKind.i64.wrap (e7 vm 3)=e7 vm 3:=nZ ⟨by omega,by omega⟩
 have c2:IntKind.i64.wrap c=c:=nZ ⟨by omega,by omega⟩
 refine Yg Bx ?_
 simp[Bx,w2,h2]
 (with_reducible repeat' first|refine Xk ?_<;>try simp|refine Xs ?_ ?_<;>intro h<;>(try intro h')<;>(try simp[h])<;>(try omega)|refine Xg ?_|omega)
 obtain⟨n,nx,tn,hg,hb⟩:=f149 (1+e7 w 3) (1+e7 vm 3) (by omega) (by omega)
 have hn:1≤n∧n≤9:=hb.size
 refine fr.c rfl rfl hg (by simp) (by simp[bD]) ?_
 simp[bD,c2]
 (with_reducible repeat' first|refine Xk ?_<;>try simp|refine Xs ?_ ?_<;>intro h<;>(try intro h')<;>(try simp[h])<;>(try omega)|refine Xg ?_|omega)
 ·rw[c2]
  have hr:=jw (a:=c) (b:=n) hc.1
  have q9:=bW c (show n≠0 by omega)
  have zQ:=bT c (show 0<n by omega)
  refine Yv (f150 n nx tn hb (e7 c n) (by omega)) fun x hx=>?_
  simp
  simp[bD]
  exact Ey.i (n,x,tn) rfl rfl hx
 ·exact Ey.i (n,nx,tn) rfl rfl hb
set_option maxRecDepth 10000
set_option maxHeartbeats 1000000
theorem iR.s{T:gb}{n:Nat}{live:List Nat}{a:IR}{s s':St}{K:gv}(hs:s=s')(h:iR T n live a s' K .mk):iR T n live a s K .mk:=by subst hs;exact h
theorem eW.s{T:gb}{live:List Nat}{a:IR}{s s':St}{K:gv}(hs:s=s')(h:eW T live a s' K .mk):eW T live a s K .mk:=by subst hs;exact h
theorem L3(l:List Int):cl fU l=l.map fun n=>D.val (.int .u8 n):=by
 rw[lF]
 induction l with
 | nil=>rfl
 | cons a r ih=>simp[← ih]
@[simp] theorem ajR{l:List Int}{k:Nat}{P:D→Prop}:oA (cl fU l)[k]? P .mk=(k<l.length∧P (.val (.int .u8 (gt l k)))):=by
 rw[L3]
 by_cases h:k<l.length
 ·simp[h,gt]
 ·simp[h]
@[simp] theorem afD{l:List Int}{k:Nat}(h:k<(cl fU l).length):(cl fU l)[k] = .val (.int .u8 (gt l k)):=by
 have h':k<l.length:=by simpa using h
 simp[L3,gt,h']
theorem f59(g:eO)(hg:fi g)(l:List Int)(hl:l.length=18)(h:∀ n∈l,0≤n∧n<256) :
  Wf T 59 [dG g,.agg (cl fU l)] [] (Ey dP (fF g)):=by
 have hb:=hg.gV.size
 have hk:=hg.kinds
 have hr:=hg.fg
 have h4:=Kd hr.1 (by omega)
 have h5:=xO hr.1 (by omega)
 have h6:(0:Int)<2 ^ g.fg.toNat:=Int.pow_pos (by decide)
 have hu:∀ k:Nat,k<18→0≤gt l k∧gt l k<256:=fun k hk=>h _ (eY (by omega) (by omega))
 have hw:∀ k:Nat,k<18→IntKind.i64.wrap (gt l k)=gt l k:=fun k hk=>by
  have:=hu k hk
  exact nZ ⟨by omega,by omega⟩
 have Fe:=hw 16 (by omega)
 have Vd:=hw 17 (by omega)
 have N5:=hu 16 (by omega)
 have N6:=hu 17 (by omega)
 simp at Fe Vd N5 N6
 have r16:=jw (a:=gt l 16) (b:=2 ^ g.fg.toNat) N5.1
 have m16:=bW (gt l 16) (show(2:Int) ^ g.fg.toNat≠0 by omega)
 have n16:=bT (gt l 16) h6
 have r17:=jw (a:=gt l 17) (b:=2) N6.1
 have Kq:IntKind.i64.wrap (e7 (gt l 17) 2)=e7 (gt l 17) 2:=nZ ⟨by omega,by omega⟩
 have hR:0≤e7 (gt l 16) (2 ^ g.fg.toNat)∧e7 (gt l 16) (2 ^ g.fg.toNat)<2 ^ g.fg.toNat:=by omega
 have hS:0≤e7 (gt l 17) 2∧e7 (gt l 17) 2≤1:=by omega
 refine Yg C9 ?_
 simp[C9,h4,hl,Fe,Kq]
 generalize e7 (gt l 16) (2 ^ g.fg.toNat)=R at *
 generalize e7 (gt l 17) 2=S at *
 (with_reducible repeat' first|refine Xk ?_<;>try simp[h4,hl,Fe,Kq]|refine Xs ?_ ?_<;>intro h<;>(try intro h')<;>(try simp[h,h4,hl,Fe,Kq])<;>(try omega)|refine Xg ?_|omega)
 refine eW.e ((0,List.replicate g.size.toNat 0):Int×List Int) (fun y=>[(2,.ptr 0 0 0),(3,.ptr 1 0 0),(4,.ptr 2 0 0),(5,.ptr 4 0 0),(6,.i y.1)]) (fun y=>[.row 41 0 g.cells,.row 30 0 (cl fU l),.row 44 0 [.emp,.emp,.emp,.i 0,.i 0],.row 3 0 (cl f1 y.2),.row 44 0 [.eN 3 0 1 0 g.size.toNat,.emp,.emp,.i R,.i S]]) (fun y=>0≤y.1∧y.1≤6∧y.2.length=g.size.toNat∧∀ x∈y.2,0≤x∧x≤2*g.kinds.length) (fun y=>6-y.1.toNat) ?_ ?_
 ·simp
  (with_reducible repeat' first|refine Xk ?_<;>try simp|refine Xs ?_ ?_<;>intro h<;>(try intro h')<;>(try simp[h])<;>(try omega)|refine Xg ?_|omega)
 rintro⟨i,cs⟩ ⟨i0,i1,i2,i3⟩
 dsimp only at i0 i1 i2 i3 ⊢
 have lL:max i 0=i:=by omega
 by_cases hi:i<6
 ·have w1:IntKind.i64.wrap (gt l i)=gt l i:=by
   have:=hw i.toNat (by omega)
   rwa [ct i0]at this
  have w2:IntKind.i64.wrap (gt l (6+i))=gt l (6+i):=by
   have:=hw (6+i.toNat) (by omega)
   rwa [show((6+i.toNat:Nat):Int)=6+i by omega]at this
  have u1:0≤gt l i:=by
   have:=hu i.toNat (by omega)
   rw[ct i0]at this
   exact this.1
  have u2:0≤gt l (6+i):=by
   have:=hu (6+i.toNat) (by omega)
   rw[show((6+i.toNat:Nat):Int)=6+i by omega]at this
   exact this.1
  have r1:=jw (a:=gt l i) (b:=g.size+1) u1
  have e1:=bW (gt l i) (show g.size+1≠0 by omega)
  have r2:=jw (a:=gt l (6+i)) (b:=g.kinds.length) u2
  have e2:=bW (gt l (6+i)) (show(g.kinds.length:Int)≠0 by omega)
  have e3:=bT (gt l (6+i)) (show(0:Int)<g.kinds.length by omega)
  have r3:=jw (a:=i) (b:=2) i0
  simp[hl,lL,hi,w1,w2]
  have fY:g.kinds≠[]:=by intro h;simp[h]at hk
  obtain⟨A,hA⟩:∃ A,e7 (gt l i) (g.size+1)=A:=⟨_,rfl⟩
  obtain⟨B,hB⟩:∃ B,e7 (gt l (6+i)) g.kinds.length=B:=⟨_,rfl⟩
  obtain⟨C,hC⟩:∃ B,e7 i 2=B:=⟨_,rfl⟩
  rw[hA]at r1
  rw[hB]at r2
  rw[hC]at r3
  simp only[hA]
  (with_reducible repeat' first|refine Xk ?_<;>try simp[hl,lL,w1,w2,hA,hB,hC,fY]|refine Xs ?_ ?_<;>intro h<;>(try intro h')<;>(try simp[h,hl,lL,w1,w2,hA,hB,hC,fY])<;>(try omega)|refine Xg ?_|omega)
  ·(with_reducible repeat' first|refine Xk ?_<;>try simp[fY]|refine Xs ?_ ?_<;>intro h<;>(try intro h')<;>(try simp[h,fY])<;>(try omega)|refine Xg ?_|omega)
   refine LJ.e (i+1,pt cs A (1+2*B+C)) ?_
   dsimp only
   have hv:0≤1+2*B+C∧1+2*B+C≤2*g.kinds.length:=by omega
   refine⟨by omega,by omega,by omega,?_,?_⟩
   ·have:=gC (l:=cs) (n:=A) (v:=1+2*B+C) (by omega) (by omega)
    omega
   ·intro x hx
    rcases O4 hx with rfl|hx
    ·exact hv
    ·exact i3 x hx
  ·refine LJ.e (i+1,cs) ?_
   exact⟨by omega,by omega,by omega,i2,i3⟩
 simp[hi]
 have z0:n4 g (List.replicate g.kinds.length 0):=⟨by simp,fun k hk jk=>by
  have e:gt (List.replicate g.kinds.length (0:Int)) k=0:=by
   simp at jk
   have:k.toNat<g.kinds.length:=by omega
   simp[gt,this]
  rw[e];omega⟩
 refine eW.un ?_
 refine iR.s (by simp;rfl) ?_
 refine iR.u ?_
 simp
 (with_reducible repeat' first|refine Xk ?_<;>try simp|refine Xs ?_ ?_<;>intro h<;>(try intro h')<;>(try simp[h])<;>(try omega)|refine Xg ?_|omega)
 refine eW.e ((0,List.replicate g.kinds.length 0):Int×List Int) (fun y=>[(2,.ptr 0 0 0),(3,.ptr 1 0 0),(4,.ptr 2 0 0),(5,.ptr 4 0 0),(8,.i 0),(9,.i y.1)]) (fun y=>[.row 41 0 g.cells,.row 30 0 (cl fU l),.row 44 0 [.emp,.emp,.emp,.i 0,.i 0],.row 3 0 (cl f1 cs),.row 44 0 [.eN 3 0 1 0 g.size.toNat,.eN 5 0 1 0 g.kinds.length,.emp,.i R,.i S],.row 3 0 (cl f1 y.2)]) (fun y=>0≤y.1∧y.1≤g.kinds.length∧n4 g y.2) (fun y=>g.kinds.length-y.1.toNat) ?_ ?_
 ·simp
  exact z0
 rintro⟨i,h0⟩ ⟨i0,i1,ih⟩
 dsimp only at i0 i1 ih ⊢
 have lL:max i 0=i:=by omega
 have sw:=ih.len
 by_cases hi:i<g.kinds.length
 ·have kZ:i<2:=by omega
  have w1:IntKind.i64.wrap (gt l (12+i))=gt l (12+i):=by
   have:=hw (12+i.toNat) (by omega)
   rwa [show((12+i.toNat:Nat):Int)=12+i by omega]at this
  have u1:0≤gt l (12+i):=by
   have:=hu (12+i.toNat) (by omega)
   rw[show((12+i.toNat:Nat):Int)=12+i by omega]at this
   exact this.1
  have r1:=jw (a:=gt l (12+i)) (b:=3) u1
  by_cases jH:(gt g.kinds i).mz=true
  ·have lM:∀ v,(pt h0 i v).length=h0.length:=fun v=>gC i0 (by omega)
   have iA:i.toNat<g.kinds.length:=by omega
   simp[hl,lL,hi,kZ,jH,w1,lM,sw,iA]
   (with_reducible repeat' first|refine Xk ?_<;>try simp[hl,lL,hi,kZ,jH,w1,lM,sw,iA]|refine Xs ?_ ?_<;>intro h<;>(try intro h')<;>(try simp[h,hl,lL,hi,kZ,jH,w1,lM,sw,iA])<;>(try omega)|refine Xg ?_|omega)
   ·refine LJ.e (i+1,pt (pt h0 i (e7 (gt l (12+i)) 3)) i 8) ?_
    refine⟨by dsimp only;omega,by dsimp only;omega,by dsimp only;omega,?_⟩
    exact(ih.set i0 (by omega) ⟨by omega,by omega,fun _=>jH⟩).set i0 (by rw[gC i0 (by omega)];omega) ⟨by omega,by omega,fun _=>jH⟩
   ·refine LJ.e (i+1,pt h0 i (e7 (gt l (12+i)) 3)) ?_
    exact⟨by dsimp only;omega,by dsimp only;omega,by dsimp only;omega,ih.set i0 (by omega) ⟨by omega,by omega,fun _=>jH⟩⟩
  ·simp[hl,lL,hi,kZ,jH,w1]
   (with_reducible repeat' first|refine Xk ?_<;>try simp[hl,lL,hi,kZ,jH,w1]|refine Xs ?_ ?_<;>intro h<;>(try intro h')<;>(try simp[h,hl,lL,hi,kZ,jH,w1])<;>(try omega)|refine Xg ?_|omega)
   refine LJ.e (i+1,h0) ?_
   exact⟨by dsimp only;omega,by dsimp only;omega,by dsimp only;omega,ih⟩
 simp[hi]
 (with_reducible repeat' first|refine Xk ?_<;>try simp[hi]|refine Xs ?_ ?_<;>intro h<;>(try intro h')<;>(try simp[h,hi])<;>(try omega)|refine Xg ?_|omega)
 clear hi lL i0 i1 sw
 rename n4 g h0=>Pc
 refine iR.s (by simp;rfl) ?_
 refine iR.u ?_
 simp
 (with_reducible repeat' first|refine Xk ?_<;>try simp|refine Xs ?_ ?_<;>intro h<;>(try intro h')<;>(try simp[h])<;>(try omega)|refine Xg ?_|omega)
 refine eW.e ((0,List.replicate g.kinds.length 0):Int×List Int) (fun y=>[(2,.ptr 0 0 0),(3,.ptr 1 0 0),(4,.ptr 2 0 0),(5,.ptr 4 0 0),(8,.i 1),(9,.i y.1)]) (fun y=>[.row 41 0 g.cells,.row 30 0 (cl fU l),.row 44 0 [.emp,.emp,.emp,.i 0,.i 0],.row 3 0 (cl f1 cs),.row 44 0 [.eN 3 0 1 0 g.size.toNat,.eN 5 0 1 0 g.kinds.length,.eN 6 0 1 0 g.kinds.length,.i R,.i S],.row 3 0 (cl f1 h0),.row 3 0 (cl f1 y.2)]) (fun y=>0≤y.1∧y.1≤g.kinds.length∧n4 g y.2) (fun y=>g.kinds.length-y.1.toNat) ?_ ?_
 ·simp
  exact z0
 rintro⟨i,h1⟩ ⟨i0,i1,ih⟩
 dsimp only at i0 i1 ih ⊢
 have lL:max (2+i) 0=(2+i):=by omega
 have sw:=ih.len
 by_cases hi:i<g.kinds.length
 ·have kZ:i<2:=by omega
  have w1:IntKind.i64.wrap (gt l (12+(2+i)))=gt l (12+(2+i)):=by
   have:=hw (12+(2+i).toNat) (by omega)
   rwa [show((12+(2+i).toNat:Nat):Int)=12+(2+i)by omega]at this
  have u1:0≤gt l (12+(2+i)):=by
   have:=hu (12+(2+i).toNat) (by omega)
   rw[show((12+(2+i).toNat:Nat):Int)=12+(2+i)by omega]at this
   exact this.1
  have r1:=jw (a:=gt l (12+(2+i))) (b:=3) u1
  by_cases jH:(gt g.kinds i).mz=true
  ·have lM:∀ v,(pt h1 i v).length=h1.length:=fun v=>gC i0 (by omega)
   have iA:i.toNat<g.kinds.length:=by omega
   simp[hl,lL,hi,kZ,jH,w1,lM,sw,iA]
   (with_reducible repeat' first|refine Xk ?_<;>try simp[hl,lL,hi,kZ,jH,w1,lM,sw,iA]|refine Xs ?_ ?_<;>intro h<;>(try intro h')<;>(try simp[h,hl,lL,hi,kZ,jH,w1,lM,sw,iA])<;>(try omega)|refine Xg ?_|omega)
   ·refine LJ.e (i+1,pt (pt h1 i (e7 (gt l (12+(2+i))) 3)) i 8) ?_
    refine⟨by dsimp only;omega,by dsimp only;omega,by dsimp only;omega,?_⟩
    exact(ih.set i0 (by omega) ⟨by omega,by omega,fun _=>jH⟩).set i0 (by rw[gC i0 (by omega)];omega) ⟨by omega,by omega,fun _=>jH⟩
   ·refine LJ.e (i+1,pt h1 i (e7 (gt l (12+(2+i))) 3)) ?_
    exact⟨by dsimp only;omega,by dsimp only;omega,by dsimp only;omega,ih.set i0 (by omega) ⟨by omega,by omega,fun _=>jH⟩⟩
  ·simp[hl,lL,hi,kZ,jH,w1]
   (with_reducible repeat' first|refine Xk ?_<;>try simp[hl,lL,hi,kZ,jH,w1]|refine Xs ?_ ?_<;>intro h<;>(try intro h')<;>(try simp[h,hl,lL,hi,kZ,jH,w1])<;>(try omega)|refine Xg ?_|omega)
   refine LJ.e (i+1,h1) ?_
   exact⟨by dsimp only;omega,by dsimp only;omega,by dsimp only;omega,ih⟩
 simp[hi]
 (with_reducible repeat' first|refine Xk ?_<;>try simp[hi]|refine Xs ?_ ?_<;>intro h<;>(try intro h')<;>(try simp[h,hi])<;>(try omega)|refine Xg ?_|omega)
 clear hi lL i0 i1 sw
 rename n4 g h1=>Pd
 refine iR.s (by simp;rfl) ?_
 refine iR.u ?_
 simp
 (with_reducible repeat' first|refine Xk ?_<;>try simp|refine Xs ?_ ?_<;>intro h<;>(try intro h')<;>(try simp[h])<;>(try omega)|refine Xg ?_|omega)
 exact Ey.i ⟨cs,h0,h1,R,S⟩ (by simp[i2,Pc.len,Pd.len,dP,Pos.cells]) rfl ⟨by simp only;omega,Pc,Pd,hR,hS,i3⟩
end Go.Proofs.YtnaefnajkaohgaaGreatDoor
namespace Go.AL
open Go
@[simp] theorem acj(ρ:Nat→Option Nat)(H:U)(k:Nat)(f:Fn)(a b:List D):eS ρ H (k+1) (.fn f a b) = .fn f (a.map (eS ρ H k)) (b.map (eS ρ H k)):=by
 by_cases h:closed (.fn f a b)=true
 ·have h':=h
  simp only[G8,ah]at h'
  rw[mf h,uc h'.1,uc h'.2]
 ·rw[eS,if_neg h]
@[simp] theorem alN(ρ:Nat→Option Nat)(H:U)(k:Nat)(cs:List D):eS ρ H (k+1) (.eZ cs) = .eZ (cs.map (eS ρ H k)):=by
 by_cases h:closed (.eZ cs)=true
 ·rw[mf h,uc (by simpa using h)]
 ·rw[eS,if_neg h]
theorem L0(l:List Int):cl f1 l=l.map fun n=>D.i n:=by
 rw[lF]
 induction l with
 | nil=>rfl
 | cons a r ih=>simp[← ih]
theorem R4{ρ:Nat→Option Nat}{H:U}{k n:Nat}{t:TypeId}{cs:List D}(l:List Int)(h:cs=l.map fun n=>D.i n)(hn:n=l.length):lI ρ H (k+1) 1 0 n (some (t,cs))=dI l:=by
 rw[h,← L0,qW hn]
 rfl
@[simp] theorem amq(a b:ByteArray):ya .eql a b=some (.b (decide (a=b))):=by
 have:(a.data.toList == b.data.toList)=decide (a=b):=by
  rw[Bool.eq_iff_iff,beq_iff_eq,decide_eq_true_iff]
  constructor
  ·intro h;cases a;cases b;congr 1;exact eo.1 h
  ·rintro rfl;rfl
 show some (D.val (.bool _))=_
 rw[this]
@[simp] theorem af4(t:TypeId)(s:ByteArray)(n:Nat):pG t (.val (.string s)) n=some (.ptr n 0 0,.new (.row t 0 [.val (.string s)])):=rfl
@[simp] theorem af1(t:TypeId)(m:Int)(n:Nat):pG t (.i m) n=some (.ptr n 0 0,.new (.row t 0 [.i m])):=rfl
@[simp] theorem ag1(l:List (List eT)):closed (dN 1 fP l)=true:=uQ (fun a=>by simp[fm]) l
def AS(rf:Nat)(st:oZ)(x:Option Ob)(P:Env→Prop):Prop:=∃ env,x=some (.fZ rf env st)∧P env
@[simp] theorem ak2{rf:Nat}{st:oZ}{env:Env}{P:Env→Prop}:AS rf st (some (.fZ rf env st)) P=P env:=propext ⟨fun⟨_,h,k⟩=>by cases h;exact k,fun k=>⟨_,rfl,k⟩⟩
section
variable{T:gb}{v rf:Nat}{b:IR}{dst:Option Nat}{s s1:St}{K:St→Prop}
@[simp] theorem alp:PX T v rf b dst s K (.norm s1)=AS rf .ready s1.H[v]? fun jj=>XC T b { s1 with H:=s1.H.set v (.fZ rf jj .busy) } (vV v rf dst s K):=rfl
@[simp] theorem alr:vV v rf dst s K (.norm s1)=AS rf .busy s1.H[v]? fun ja=>K { s with env:=put s.env dst (.b true),H:=s1.H.set v (.fZ rf ja .ready) }:=rfl
@[simp] theorem alq{id:Nat}:vV v rf dst s K (.exit id s1)=AS rf .busy s1.H[v]? fun ja=>K { s with env:=put s.env dst (.b false),H:=s1.H.set v (.fZ rf ja (.tt id)) }:=rfl
@[simp] theorem als:vV v rf dst s K (.ret s1)=AS rf .busy s1.H[v]? fun ja=>K { s with env:=put s.env dst (.b false),H:=s1.H.set v (.fZ rf ja .uS) }:=rfl
@[simp] theorem aly{l:List D}{e:Env}:px [] l e=e:=by cases l<;>rfl
@[simp] theorem alx{k:Nat}{d:D}{ks:List Nat}{l:List D}{e:Env}:px (k::ks) (d::l) e=px ks l ((k,d)::e):=rfl
@[simp] theorem ak0{s:St}:vT s .ready=some (.norm s):=rfl
@[simp] theorem akZ{s:St}{id:Nat}:vT s (.tt id)=some (.exit id s):=rfl
@[simp] theorem ak1{s:St}:vT s .uS=some (.ret s):=rfl
end
@[simp] theorem ake(n:Nat):mc n .jL = []:=rfl
@[simp] theorem akh(n rf:Nat)(e:Env)(st:oZ):mc n (.fZ rf e st) = []:=rfl
theorem fr.nr{T:gb}{f:FuncId}{args nH:List D}{dst:Option Nat}{s:St}{K:St→Prop}{fn:eQ}{d:D}{Hn:U}(hf:T.fn f=some fn)(hp:fn.full=false)(h:Wf T f nH [] fun d' H'=>d'=d∧H'=Hn)
  (hs:args.map (eS (fun _=>none) s.H 40)=nH) (hr:(mD d&&Hn.all mJ)=true) (E3:(kE d&&Hn.all lG)=true) (k:K { s with env:=put s.env dst (iO s.H.length d),H:=s.H++Hn }):fr T f args dst s K .mk:=by
 refine fr.is hf hp (K0:=fun d' H'=>d'=d∧H'=Hn) (by rw[hs];exact h) ?_
 rintro d' Dv ⟨rfl,rfl⟩
 refine⟨_,?_,k⟩
 unfold after
 by_cases hc:fm args=true
 ·rw[if_pos hc,if_pos E3]
 ·rw[if_neg hc,if_pos hr]
@[simp] theorem akl(v g sz off n:Nat):mD (.eN v g sz off n)=true:=rfl
@[simp] theorem ahL(t g:Nat)(cs:List D):mJ (.row t g cs)=se cs:=rfl
@[simp] theorem ahK(l:List Int):se (cl f1 l)=true:=by
 rw[L0]
 induction l with
 | nil=>rfl
 | cons a r ih=>simpa[se,flat]using ih
end Go.AL
namespace Go.Proofs.YtnaefnajkaohgaaGreatDoor
open Go Go.AL Classical
set_option maxRecDepth 10000
set_option maxHeartbeats 4000000
theorem f133(g:eO)(hg:fi g)(n:Int)(hn:0≤n∧n≤2*g.kinds.length):Wf T 133 [dG g,.i n] [] (Is (.b true)):=by
 have hk:=hg.kinds
 refine Yg BN ?_
 simp[BN]
 (with_reducible repeat' first|refine Xk ?_<;>try simp|refine Xs ?_ ?_<;>intro h<;>(try intro h')<;>(try simp[h])<;>(try omega)|refine Xg ?_|omega)
theorem f134(g:eO)(hg:fi g)(n:Int)(hn:0≤n∧n≤2*g.kinds.length):Wf T 134 [.i n,.eZ [.fn (.func 133) [dG g] []]] [] (Is (.b false)):=by
 refine Yg BO ?_
 simp[BO]
 refine Yc (f133 g hg n hn) ?_
 simp
theorem f178(g:eO)(hg:fi g)(l:List Int)(hl:∀ n∈l,0≤n∧n≤2*g.kinds.length)(h9:l.length≤9):Wf T 178 [dI l,.fn (.func 134) [] [.eZ [.fn (.func 133) [dG g] []]]] [] (Is (.i (-1))):=by
 refine Yg wv ?_
 simp[wv]
 refine eW.e (0:Int) (fun y=>[(0,dI l),(1,.fn (.func 134) [] [.eZ [.fn (.func 133) [dG g] []]]),(7,.i l.length),(8,.i y)]) (fun y=>[]) (fun y=>0≤y∧y≤l.length) (fun y=>(l.length-y).toNat) ?_ ?_
 ·simp
 rintro i ⟨i0,i1⟩
 dsimp only at i0 i1 ⊢
 by_cases hi:i<l.length
 ·simp[hi]
  (with_reducible repeat' first|refine Xk ?_<;>try simp|refine Xs ?_ ?_<;>intro h<;>(try intro h')<;>(try simp[h])<;>(try omega)|refine Xg ?_|omega)
  refine Yc (f134 g hg (gt l i) (hl _ (eY i0 hi))) ?_
  simp
  (with_reducible repeat' first|refine Xk ?_<;>try simp|refine Xs ?_ ?_<;>intro h<;>(try intro h')<;>(try simp[h])<;>(try omega)|refine Xg ?_|omega)
  refine LJ.e (i+1) ?_
  exact⟨by omega,by omega,by omega⟩
 ·simp[hi]
theorem f135(g:eO)(hg:fi g)(l:List Int)(hl:∀ n∈l,0≤n∧n≤2*g.kinds.length)(h9:l.length≤9):Wf T 135 [dI l,.fn (.func 134) [] [.eZ [.fn (.func 133) [dG g] []]]] [] (Is (.b false)):=by
 refine Yg wu ?_
 simp[wu]
 refine Yc (f178 g hg l hl h9) ?_
 simp
theorem f136(g:eO)(hg:fi g)(l:List Int)(hl:n4 g l):Wf T 136 [dG g,dI l] [] (Is (.b true)):=by
 have hk:=hg.kinds
 have hn:=hl.len
 refine Yg BP ?_
 simp[BP]
 (with_reducible repeat' first|refine Xk ?_<;>try simp[hn]|refine Xs ?_ ?_<;>intro h<;>(try intro h')<;>(try simp[h,hn])<;>(try omega)|refine Xg ?_|omega)
 refine eW.e (0:Int) (fun y=>[(2,.ptr 0 0 0),(14,dI l),(15,.i g.kinds.length),(16,.i y)]) (fun y=>[.row 214 0 g.cells]) (fun y=>0≤y∧y≤l.length) (fun y=>(l.length-y).toNat) ?_ ?_
 ·simp
 rintro i ⟨i0,i1⟩
 dsimp only at i0 i1 ⊢
 by_cases hi:i<l.length
 ·have ha:=hl.at_ i i0 hi
  have nb:i<g.kinds.length:=by omega
  by_cases hp:0<gt l i
  ·have q6:=ha.2.2 hp
   simp[hi]
   (with_reducible repeat' first|refine Xk ?_<;>try simp[q6,hp]|refine Xs ?_ ?_<;>intro h<;>(try intro h')<;>(try simp[h,q6,hp])<;>(try omega)|refine Xg ?_|omega)
   refine LJ.e (i+1) ?_
   exact⟨by omega,by omega,by omega⟩
  ·simp[hi]
   (with_reducible repeat' first|refine Xk ?_<;>try simp[hp]|refine Xs ?_ ?_<;>intro h<;>(try intro h')<;>(try simp[h,hp])<;>(try omega)|refine Xg ?_|omega)
   refine LJ.e (i+1) ?_
   exact⟨by omega,by omega,by omega⟩
 ·simp[show ¬ i<g.kinds.length by omega]
theorem f97(g:eO)(hg:fi g)(p:Pos)(hp:fF g p):Wf T 97 [dG g,dP p] [] (Is (.b true)):=by
 have hk:=hg.kinds
 have hr:=hg.fg
 have E3:=hp.fg
 have hs:=hp.side
 have hz:=hp.size
 have hb:=hg.gV.size
 have h4:=Kd hr.1 (by omega)
 refine Yg Ds ?_
 simp[Ds,h4,hz]
 refine gR.r rfl rfl (f135 g hg p.cs hp.cs (by omega)) (by simp) (by simp[flat]) (by simp) ?_
 simp
 refine Yt (f136 g hg p.h0 hp.h0) ?_
 simp
 refine Yt (f136 g hg p.h1 hp.h1) ?_
 simp
 (with_reducible repeat' first|refine Xk ?_<;>try simp[h4]|refine Xs ?_ ?_<;>intro h<;>(try intro h')<;>(try simp[h,h4])<;>(try omega)|refine Xg ?_|omega)
 ·simp[*]
 ·have:p.side=1:=by omega
  simp[*]
set_option maxRecDepth 10000
set_option maxHeartbeats 4000000
theorem f177(n:Int):Wf T 177 [.i n] [] (Is (.b false)):=by
 refine Yg B9 ?_
 simp[B9]
theorem f131(a b:Int):Wf T 131 [.i a,.i b] [] (Is (.i (iT a b))):=by
 refine Yg BL ?_
 simp[BL]
 refine Yc (f177 a) ?_
 simp
 refine Yc (f177 b) ?_
 simp
 (with_reducible repeat' first|refine Xk ?_<;>try simp|refine Xs ?_ ?_<;>intro h<;>(try intro h')<;>(try simp[h])<;>(try omega)|refine Xg ?_|omega)
 all_goals
  unfold iT
  (repeat' split)<;>(first|rfl|(exfalso;omega))
theorem f130(a b:List Int)(ha:a.length<2 ^ 40)(hb:b.length<2 ^ 40):Wf T 130 [dI a,dI b] [] (Is (.i (iP a b))):=by
 refine Yg BK ?_
 simp[BK]
 refine eW.e (0:Int) (fun i=>[(0,dI a),(1,dI b),(9,dI a),(10,.i a.length),(11,.i i)]) (fun i=>[]) (fun i=>0≤i∧i≤a.length∧i≤b.length∧a.take i.toNat=b.take i.toNat) (fun i=>a.length-i.toNat) ?_ ?_
 ·simp
 rintro i ⟨h0,h1,wV,h2⟩
 have e:=OG h2 (by omega) (by omega)
 by_cases hi:i<a.length
 ·by_cases hj:i<b.length
  ·simp[hi,hj]
   (with_reducible repeat' first|refine Xk ?_<;>try simp|refine Xs ?_ ?_<;>intro h<;>(try intro h')<;>(try simp[h])<;>(try omega)|refine Xg ?_|omega)
   refine Yc (f131 (gt a i) (gt b i)) ?_
   simp
   by_cases hz:iT (gt a i) (gt b i)=0
   ·simp[hz]
    (with_reducible repeat' first|refine Xk ?_<;>try simp|refine Xs ?_ ?_<;>intro h<;>(try intro h')<;>(try simp[h])<;>(try omega)|refine Xg ?_|omega)
    refine LJ.e (i+1) ?_
    refine⟨by omega,by omega,by omega,by omega,?_⟩
    rw[gx h0 hi,gx h0 hj,h2,sL.1 hz]
   ·simp[hz]
    rw[e,lk h0 hi,lk h0 hj,iP,if_neg (fun h=>hz (sL.2 h))]
  ·simp[hi,hj]
   (with_reducible repeat' first|refine Xk ?_<;>try simp|refine Xs ?_ ?_<;>intro h<;>(try intro h')<;>(try simp[h])<;>(try omega)|refine Xg ?_|omega)
   have h5:iT ((a.drop i.toNat).length) ((b.drop i.toNat).length)=1:=by
    simp only[bn,iT]
    rw[if_neg (by omega),if_pos (by omega)]
   rw[e,Jo (by simp only[bn];omega),h5]
 ·simp[hi]
  (with_reducible repeat' first|refine Xk ?_<;>try simp|refine Xs ?_ ?_<;>intro h<;>(try intro h')<;>(try simp[h])<;>(try omega)|refine Xg ?_|omega)
  all_goals
   rw[e,Jo (by simp only[bn];omega)]
   simp only[bn,iT]
   (repeat' split)<;>omega
theorem f129(l:List Int)(hl:l.length<2 ^ 40):Wf T 129 [dI l] [] (Is (.i (kM l))):=by
 refine Yg BH ?_
 simp[BH]
 refine eW.e (0:Int) (fun i=>[(3,.i 0),(6,dI l),(7,.i l.length),(8,.i i)]) (fun i=>[]) (fun i=>0≤i∧i≤l.length∧kM l=kM (l.drop i.toNat)) (fun i=>l.length-i.toNat) ?_ ?_
 ·simp
 rintro i ⟨h0,h1,h2⟩
 by_cases hi:i<l.length
 ·rw[lk h0 hi]at h2
  by_cases hz:gt l i=0
  ·simp[hi,hz]
   (with_reducible repeat' first|refine Xk ?_<;>try simp|refine Xs ?_ ?_<;>intro h<;>(try intro h')<;>(try simp[h])<;>(try omega)|refine Xg ?_|omega)
   refine LJ.e (i+1) ?_
   refine⟨by omega,by omega,by omega,?_⟩
   rw[h2]
   simp only[kM,hz]
   rw[if_neg (by simp),show(i+1).toNat=i.toNat+1 by omega]
  ·simp[hi,hz]
   (with_reducible repeat' first|refine Xk ?_<;>try simp|refine Xs ?_ ?_<;>intro h<;>(try intro h')<;>(try simp[h])<;>(try omega)|refine Xg ?_|omega)
   rw[h2]
   simp[kM,hz]
 ·simp[hi]
  rw[h2,bZ (by omega)]
  rfl
theorem f88(p q:Pos)(hp:Small p)(hq:Small q):Wf T 88 [dP p,dP q] [] (Is (.i (gd p q))):=by
 refine Yg Di ?_
 simp[Di]
 refine Yt (f130 _ _ hp.1 hq.1) ?_
 simp
 refine Yt (f130 _ _ hp.2.1 hq.2.1) ?_
 simp
 refine Yt (f130 _ _ hp.2.2 hq.2.2) ?_
 simp
 refine Yt (f131 _ _) ?_
 simp
 refine Yt (f131 _ _) ?_
 simp
 refine gR.r rfl rfl (f129 [iP p.cs q.cs,iP p.h0 q.h0,iP p.h1 q.h1,iT p.fg q.fg,iT p.side q.side] (by simp)) (by simp;exact R4 _ rfl rfl) (by simp[flat]) (by simp) ?_
 simp
 rfl
theorem f100(l:List Pos)(hl:l.length<2 ^ 40)(hs:∀ p∈l,Small p)(tR:iZ l):Wf T 100 [fW l] [] (Is (.b true)):=by
 refine Yg Bv ?_
 simp[Bv]
 (with_reducible repeat' first|refine Xk ?_<;>try simp|refine Xs ?_ ?_<;>intro h<;>(try intro h')<;>(try simp[h])<;>(try omega)|refine Xg ?_|omega)
 refine eW.e (0:Int) (fun i=>[(0,fW l),(6,.i (l.length-1)),(7,.i i)]) (fun i=>[]) (fun i=>0≤i) (fun i=>l.length-i.toNat) ?_ ?_
 ·simp
 rintro i h0
 by_cases hi:i<l.length-1
 ·simp[hi]
  (with_reducible repeat' first|refine Xk ?_<;>try simp|refine Xs ?_ ?_<;>intro h<;>(try intro h')<;>(try simp[h])<;>(try omega)|refine Xg ?_|omega)
  refine Yt (f88 _ _ (hs _ (eY h0 (by omega))) (hs _ (eY (n:=i+1) (by omega) (by omega)))) ?_
  simp
  have:=tR (i+1) (by omega) (by omega)
  rw[Int.add_sub_cancel]at this
  simp[show ¬ 0≤gd (gt l i) (gt l (i+1))by omega]
  (with_reducible repeat' first|refine Xk ?_<;>try simp|refine Xs ?_ ?_<;>intro h<;>(try intro h')<;>(try simp[h])<;>(try omega)|refine Xg ?_|omega)
  refine LJ.e (i+1) ?_
  exact⟨by omega,by omega⟩
 ·simp[hi]
theorem f96(g:eO)(hg:fi g)(p:Pos)(hp:fF g p):Wf T 96 [dP p,.eZ g.cells] [] (Is (.b false)):=by
 refine Yg Dr ?_
 simp[Dr]
 refine Yc (f97 g hg p hp) ?_
 simp
theorem f147(g:eO)(hg:fi g)(l:List Pos)(hl:∀ p∈l,fF g p)(h9:l.length<2 ^ 40):Wf T 147 [fW l,.fn (.func 96) [] [.eZ g.cells]] [] (Is (.i (-1))):=by
 refine Yg BZ ?_
 simp[BZ]
 refine eW.e (0:Int) (fun y=>[(0,fW l),(1,.fn (.func 96) [] [.eZ g.cells]),(7,.i l.length),(8,.i y)]) (fun y=>[]) (fun y=>0≤y∧y≤l.length) (fun y=>(l.length-y).toNat) ?_ ?_
 ·simp
 rintro i ⟨i0,i1⟩
 by_cases hi:i<l.length
 ·simp[hi]
  (with_reducible repeat' first|refine Xk ?_<;>try simp|refine Xs ?_ ?_<;>intro h<;>(try intro h')<;>(try simp[h])<;>(try omega)|refine Xg ?_|omega)
  refine Yc (f96 g hg (gt l i) (hl _ (eY i0 hi))) ?_
  simp
  (with_reducible repeat' first|refine Xk ?_<;>try simp|refine Xs ?_ ?_<;>intro h<;>(try intro h')<;>(try simp[h])<;>(try omega)|refine Xg ?_|omega)
  refine LJ.e (i+1) ?_
  exact⟨by omega,by omega,by omega⟩
 ·simp[hi]
theorem f99(g:eO)(hg:fi g)(l:List Pos)(hl:∀ p∈l,fF g p)(h9:l.length<2 ^ 40):Wf T 99 [fW l,.fn (.func 96) [] [.eZ g.cells]] [] (Is (.b false)):=by
 refine Yg Du ?_
 simp[Du]
 refine Yc (f147 g hg l hl h9) ?_
 simp
set_option maxRecDepth 10000
set_option maxHeartbeats 4000000
def lW(l:List eV):D:=dN 8 eV.cells l
@[simp] theorem RF(l:List eV):closed (lW l)=true:=uQ (fun a=>by simp[eV.cells,fm]) l
theorem f132(l:List Int)(h:0<l.length)(h2:l.length<2 ^ 40):Wf T 132 [dI l] [] (fun d H=>d = .eN 0 1 1 0 l.length∧H = [.row 3 1 (cl f1 l)]):=by
 refine Yg BM ?_
 simp[BM]
 refine oA.i (a:=.b false) (by cases l with|nil=>exact absurd h (by simp)|cons a r=>rfl) ?_
 simp
 (with_reducible repeat' first|refine Xk ?_<;>try simp|refine Xs ?_ ?_<;>intro h<;>(try intro h')<;>(try simp[h])<;>(try omega)|refine Xg ?_|omega)
theorem f91(s:eV)(hs:Small s.p)(h0:0<s.p.cs.length∧0<s.p.h0.length∧0<s.p.h1.length):Wf T 91 [.agg s.cells] [] (fun d H=>d = .agg [.eN 0 1 1 0 s.p.cs.length,.eN 1 1 1 0 s.p.h0.length,.eN 2 1 1 0 s.p.h1.length,.i s.p.fg,.i s.p.side,.i s.kind,.i s.cur,.b s.ig]∧H = [.row 3 1 (cl f1 s.p.cs),.row 3 1 (cl f1 s.p.h0),.row 3 1 (cl f1 s.p.h1)]):=by
 refine Yg Dk ?_
 simp[Dk,eV.cells]
 refine Yn (f132 s.p.cs h0.1 hs.1) ?_
 simp
 refine ta.n rfl rfl (f132 s.p.h0 h0.2.1 hs.2.1) (by simp) (by simp) ?_
 simp
 refine ta.n rfl rfl (f132 s.p.h1 h0.2.2 hs.2.2) (by simp) (by simp) ?_
 simp
theorem f241(s:eV)(b:Bool):Wf T 241 [.agg s.cells,.b b] [] (Is (lW (if b then [s]else []))):=by
 refine Yg CE ?_
 simp[CE,eV.cells]
 cases b
 ·simp
  rfl
 ·simp
  rfl
theorem f243(s:eV)(h:0≤s.cur∧s.cur<s.p.cs.length)(hs:Small s.p):Wf T 243 [.agg s.cells] [] (Is (.tup [.i (ff (gt s.p.cs s.cur)),.i (iu (gt s.p.cs s.cur))])):=by
 refine Yg CG ?_
 simp[CG,eV.cells]
 (with_reducible repeat' first|refine Xk ?_<;>try simp|refine Xs ?_ ?_<;>intro h<;>(try intro h')<;>(try simp[h])<;>(try omega)|refine Xg ?_|omega)
 refine Yc (f84 _) ?_
 simp
theorem f199(g:eO)(hg:fi g)(s:eV)(hs:ix g s)(n:Int):Wf T 199 [.agg s.cells,dG g,.i n] [] (Is (lW (gw g s (1,n)))):=by
 refine Yg Cn ?_
 simp[Cn,eV.cells]
 refine Yc (f240 g hg.gV s.p.side n s.cur) ?_
 simp
 refine fr.c rfl rfl (f241 { s with cur:=jo g s.p.side n s.cur } (decide (0≤jo g s.p.side n s.cur))) (by simp[eV.cells]) (by simp) ?_
 simp[gw]
theorem f201(g:eO)(hg:fi g)(s:eV)(hs:ix g s)(n:Int):Wf T 201 [.agg s.cells,dG g,.i n] [] (Is (lW (gw g s (3,n)))):=by
 have gj:=hs.p.size
 have kz:=hs.cur
 refine Yg Cq ?_
 simp[Cq,eV.cells]
 (with_reducible repeat' first|refine Xk ?_<;>try simp|refine Xs ?_ ?_<;>intro h<;>(try intro h')<;>(try simp[h])<;>(try omega)|refine Xg ?_|omega)
 refine gR.c rfl rfl (f241 s (decide (gt s.p.cs s.cur=0))) (by simp[eV.cells]) (by simp) ?_
 simp[gw]
theorem f202(g:eO)(hg:fi g)(s:eV)(hs:ix g s)(n:Int):Wf T 202 [.agg s.cells,dG g,.i n] [] (Is (lW (gw g s (4,n)))):=by
 have gj:=hs.p.size
 have kz:=hs.cur
 have gA:=hs.p.side
 refine Yg Cr ?_
 simp[Cr,eV.cells]
 refine fr.c rfl rfl (f243 s (by omega) (hs.p.small hg)) (by simp[eV.cells]) (by simp) ?_
 simp
 (with_reducible repeat' first|refine Xk ?_<;>try simp|refine Xs ?_ ?_<;>intro h<;>(try intro h')<;>(try simp[h])<;>(try omega)|refine Xg ?_|omega)
 refine fr.c rfl rfl (f241 s (decide (iu (gt s.p.cs s.cur)=1-s.p.side))) (by simp[eV.cells]) (by simp) ?_
 simp[gw]
theorem f203(g:eO)(hg:fi g)(s:eV)(hs:ix g s)(n:Int):Wf T 203 [.agg s.cells,dG g,.i n] [] (Is (lW (gw g s (5,n)))):=by
 have gj:=hs.p.size
 have kz:=hs.cur
 refine Yg Cs ?_
 simp[Cs,eV.cells]
 refine fr.c rfl rfl (f243 s (by omega) (hs.p.small hg)) (by simp[eV.cells]) (by simp) ?_
 simp
 refine fr.c rfl rfl (f241 s (decide (iu (gt s.p.cs s.cur)=s.p.side))) (by simp[eV.cells]) (by simp) ?_
 simp[gw]
theorem f206(g:eO)(s:eV)(n:Int):Wf T 206 [.agg s.cells,dG g,.i n] [] (Is (lW (gw g s (8,n)))):=by
 refine Yg Cu ?_
 simp[Cu,eV.cells]
 rfl
theorem f207(g:eO)(hg:fi g)(s:eV)(hs:ix g s)(n:Int)(hn:0≤n∧n<g.fg):Wf T 207 [.agg s.cells,dG g,.i n] [] (Is (lW (gw g s (9,n)))):=by
 have hr:=hs.p.fg
 have pb:=hg.fg
 have h5:=xO pb.1 (by omega)
 have ha:=PS (r:=s.p.fg) (n:=n) hr.1 (by omega) hn.1 (by omega)
 refine Yg Cv ?_
 simp[Cv,eV.cells]
 (with_reducible repeat' first|refine Xk ?_<;>try simp|refine Xs ?_ ?_<;>intro h<;>(try intro h')<;>(try simp[h])<;>(try omega)|refine Xg ?_|omega)
 refine gR.c rfl rfl (f241 s (decide (bits BinOp.and IntKind.i64 (uw IntKind.i64 s.p.fg n) 1=1))) (by simp[eV.cells]) (by simp) ?_
 simp[gw,ha]
theorem f208(g:eO)(hg:fi g)(s:eV)(hs:ix g s)(n:Int)(hn:0≤n∧n<g.fg):Wf T 208 [.agg s.cells,dG g,.i n] [] (Is (lW (gw g s (10,n)))):=by
 have hr:=hs.p.fg
 have pb:=hg.fg
 have h5:=xO pb.1 (by omega)
 have ha:=PT (r:=s.p.fg) (n:=n) hr.1 (by omega) hn.1 (by omega)
 refine Yg Cw ?_
 simp[Cw,eV.cells,ha]
 (with_reducible repeat' first|refine Xk ?_<;>try simp[ha]|refine Xs ?_ ?_<;>intro h<;>(try intro h')<;>(try simp[h,ha])<;>(try omega)|refine Xg ?_|omega)
 rfl
theorem f205(g:eO)(hg:fi g)(s:eV)(hs:ix g s)(n:Int):Wf T 205 [.agg s.cells,dG g,.i n] [] (Is (lW (gw g s (7,n)))):=by
 have gj:=hs.p.size
 have kz:=hs.cur
 have jl:=hs.p.small hg
 have oh:=hg.gV.size
 have hk:=hg.kinds
 have l0:=hs.p.h0.len
 have l1:=hs.p.h1.len
 have ht:=hg.gV.to s.p.side n s.cur
 have e:gw g s (7,n)=oV g s n:=by simp[gw]
 rw[e]
 refine Yg Ct ?_
 simp[Ct,eV.cells]
 refine Yc (f240 g hg.gV s.p.side n s.cur) ?_
 simp
 (with_reducible repeat' first|refine Xk ?_<;>try simp|refine Xs ?_ ?_<;>intro h<;>(try intro h')<;>(try simp[h])<;>(try omega)|refine Xg ?_|omega)
 ·rw[oV,if_pos (by simp_all)];rfl
 ·rw[oV,if_pos (by simp_all)];rfl
 ·have q0:=gC (l:=s.p.cs) (n:=jo g s.p.side n s.cur) (v:=gt s.p.cs s.cur) (by omega) (by omega)
  have q1:=gC (l:=pt s.p.cs (jo g s.p.side n s.cur) (gt s.p.cs s.cur)) (n:=s.cur) (v:=0) kz.1 (by omega)
  refine Yn (f91 s jl (by omega)) ?_
  simp
  (with_reducible repeat' first|refine Xk ?_<;>try simp[q0,q1]|refine Xs ?_ ?_<;>intro h<;>(try intro h')<;>(try simp[h,q0,q1])<;>(try omega)|refine Xg ?_|omega)
  simp[oV, *]
  rfl
 ·rw[oV,if_pos (by simp_all)];rfl
theorem f204(g:eO)(hg:fi g)(s:eV)(hs:ix g s)(n:Int):Wf T 204 [.agg s.cells,dG g,.i n] [] (Is (lW (gw g s (6,n)))):=by
 have gj:=hs.p.size
 have kz:=hs.cur
 have jl:=hs.p.small hg
 have oh:=hg.gV.size
 have mO:=hg.kinds
 have l0:=hs.p.h0.len
 have l1:=hs.p.h1.len
 have gQ:=hs.p.cs _ (eY kz.1 (by omega))
 have gA:=hs.p.side
 have e:gw g s (6,n)=oD g s:=by simp[gw]
 rw[e]
 refine Yz yq (gH 52 [2,3,4] yq.body) ?_
 simp[yq,gH,iJ,kU,kX,lr,jN,eV.cells]
 refine fr.c rfl rfl (f243 s (by omega) jl) (by simp[eV.cells]) (by simp) ?_
 simp
 by_cases hx:iu (gt s.p.cs s.cur)=1-s.p.side
 ·have zP:0≤ff (gt s.p.cs s.cur):=by
   unfold iu at hx;unfold ff
   split at hx<;>rename_i h5
   ·rw[if_pos h5];omega
   ·omega
  have hm:ff (gt s.p.cs s.cur)<g.kinds.length:=ru gQ.2 mO.1
  have IW:s.p.side=0∨s.p.side=1:=by omega
  have q0:=gC (l:=s.p.cs) (n:=s.cur) (v:=0) kz.1 (by omega)
  simp[hx]
  (with_reducible repeat' first|refine Xk ?_<;>try simp|refine Xs ?_ ?_<;>intro h<;>(try intro h')<;>(try simp[h])<;>(try omega)|refine Xg ?_|omega)
  refine Yn (f91 s jl (by omega)) ?_
  simp
  (with_reducible repeat' first|refine Xk ?_<;>try simp[q0]|refine Xs ?_ ?_<;>intro h<;>(try intro h')<;>(try simp[h,q0])<;>(try omega)|refine Xg ?_|omega)
  ·have q6:=h
   rcases IW with e|e
   ·have ha:=hs.p.h0.at_ _ (by omega) (show ff (gt s.p.cs s.cur)<s.p.h0.length by omega)
    have q1:=zn (l:=s.p.h0) (n:=ff (gt s.p.cs s.cur)) (v:=gt s.p.h0 (ff (gt s.p.cs s.cur))+1) (by omega) (by omega)
    have q2:=gC (l:=s.p.h0) (n:=ff (gt s.p.cs s.cur)) (v:=gt s.p.h0 (ff (gt s.p.cs s.cur))+1) (by omega) (by omega)
    simp[e,q0,q1,q2]
    (with_reducible repeat' first|refine Xk ?_<;>try simp[q0,q1,q2]|refine Xs ?_ ?_<;>intro h<;>(try intro h')<;>(try simp[h,q0,q1,q2])<;>(try omega)|refine Xg ?_|omega)
    refine gR.c rfl rfl (f241 { p:={ s.p with cs:=pt s.p.cs s.cur 0,h0:=pt s.p.h0 (ff (gt s.p.cs s.cur)) (gt s.p.h0 (ff (gt s.p.cs s.cur))+1),side:=0 },kind:=s.kind,cur:=s.cur,ig:=true } (decide (gt s.p.h0 (ff (gt s.p.cs s.cur))+1≤8))) (by simp[eV.cells]) (by simp) ?_
    simp[oD,hx,q6,Pos.hand,Pos.jv,e]
    done
   ·have ha:=hs.p.h1.at_ _ (by omega) (show ff (gt s.p.cs s.cur)<s.p.h1.length by omega)
    have q1:=zn (l:=s.p.h1) (n:=ff (gt s.p.cs s.cur)) (v:=gt s.p.h1 (ff (gt s.p.cs s.cur))+1) (by omega) (by omega)
    have q2:=gC (l:=s.p.h1) (n:=ff (gt s.p.cs s.cur)) (v:=gt s.p.h1 (ff (gt s.p.cs s.cur))+1) (by omega) (by omega)
    simp[e,q0,q1,q2]
    (with_reducible repeat' first|refine Xk ?_<;>try simp[q0,q1,q2]|refine Xs ?_ ?_<;>intro h<;>(try intro h')<;>(try simp[h,q0,q1,q2])<;>(try omega)|refine Xg ?_|omega)
    refine gR.c rfl rfl (f241 { p:={ s.p with cs:=pt s.p.cs s.cur 0,h1:=pt s.p.h1 (ff (gt s.p.cs s.cur)) (gt s.p.h1 (ff (gt s.p.cs s.cur))+1),side:=1 },kind:=s.kind,cur:=s.cur,ig:=true } (decide (gt s.p.h1 (ff (gt s.p.cs s.cur))+1≤8))) (by simp[eV.cells]) (by simp) ?_
    simp[oD,hx,q6,Pos.hand,Pos.jv,e]
    done
  ·simp[oD,hx,h,q0]
   rfl
 ·simp[hx]
  (with_reducible repeat' first|refine Xk ?_<;>try simp|refine Xs ?_ ?_<;>intro h<;>(try intro h')<;>(try simp[h])<;>(try omega)|refine Xg ?_|omega)
  rw[oD,if_pos hx];rfl
