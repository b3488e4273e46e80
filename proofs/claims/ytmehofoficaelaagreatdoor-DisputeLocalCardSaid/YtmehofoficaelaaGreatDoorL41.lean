/- Part 41 of DisputeLocal. -/
import Derived.Test.YtmehofoficaelaaGreatDoorL39
import Derived.Test.YtmehofoficaelaaGreatDoorL40
import Derived.Test.YtmehofoficaelaaGreatDoorL31
set_option linter.all false
namespace Go.Proofs.YtmehofoficaelaaGreatDoor
open Go Go.AL Classical
set_option maxRecDepth 10000
set_option maxHeartbeats 8000000
def UO{l:List fe}{n:Int}(h:n.toNat<l.length):(cl fS l).drop (n.toNat*2)=fS (gt l n)++cl fS (l.drop (n.toNat+1)):=by
 rw[sR,bG h,na]
 congr 1
 unfold gt;rw[List.getD_eq_getElem?_getD,List.getElem?_eq_getElem h];rfl
set_option maxHeartbeats 16000000
theorem fG.s{T:gP}{f:FuncId}{args:List D}{dst:Option Nat}{s s':St}{K:St→Prop}(hs:s=s')(h:fG T f args dst s' K .mk):fG T f args dst s K .mk:=by subst hs;exact h
end Go.Proofs.YtmehofoficaelaaGreatDoor
namespace Go.Proofs.YtmehofoficaelaaGreatDoor
open Go Go.AL Classical
set_option maxRecDepth 10000
set_option maxHeartbeats 8000000
def UN{v:List fe}{n:Int}(h:n.toNat<v.length):(cl fS v)[n.toNat*2]? = some (.i (gt v n).1):=by
 have:=UO h
 rw[Bz]at this
 have h2:((cl fS v).drop (n.toNat*2))[0]? = some (.i (gt v n).1):=by rw[this];rfl
 rwa [aD,bQ]at h2
section
variable{nx:List (List Int)}
end
end Go.Proofs.YtmehofoficaelaaGreatDoor
namespace Go.Proofs.YtmehofoficaelaaGreatDoor
open Go Go.AL Classical
set_option maxRecDepth 10000
set_option maxHeartbeats 8000000
def f102(L:List Int)(h0:0<L.length)(h9:L.length≤4000000000):Wf T 145 [dI L] [] (Ey D.i fun r=>r∈L∧∀ x∈L,r≤x):=by
 refine Yg DK ?_
 simp[DK]
 (with_reducible repeat' first|refine Xk ?_<;>try simp|refine Xs ?_ ?_<;>intro h<;>(try intro h')<;>(try simp[h])<;>try omega|refine Xg ?_|omega)
 refine fh.e ((1,gt L 0):Int×Int) (fun y=>[(0,dI L),(3,.i y.2),(4,.i y.1)]) (fun y=>[]) (fun y=>1≤y.1∧y.1≤L.length∧y.2∈L∧∀ j:Int,0≤j→j<y.1→y.2≤gt L j) (fun y=>(L.length-y.1).toNat) ?_ ?_
 ·refine⟨by simp,by dsimp only;omega,ft (by omega) (by omega),fun j j0 j1=>?_⟩
  dsimp only at j1 ⊢
  rw[show j=0 by omega];exact dp _
 rintro⟨i,r⟩ ⟨i0,i1,i2,i3⟩
 dsimp only at i0 i1 i2 i3 ⊢
 by_cases hi:i<L.length
 ·simp[hi]
  (with_reducible repeat' first|refine Xk ?_<;>try simp|refine Xs ?_ ?_<;>intro h<;>(try intro h')<;>(try simp[h])<;>try omega|refine Xg ?_|omega)
  have hm:=ft (l:=L) (n:=i) (by omega) hi
  refine LJ.e (i+1,min r (gt L i)) ?_
  refine fQ ⟨?_,fun j j0 j1=>?_⟩
  ·dsimp only
   rcases(show min r (gt L i)=r∨min r (gt L i)=gt L i by omega)with e|e<;>rw[e]<;>assumption
  ·dsimp only at j1 ⊢
   by_cases e:j=i
   ·subst e;omega
   ·have:=i3 j j0 (by omega);omega
 ·simp[hi]
  (with_reducible repeat' first|refine Xk ?_<;>try simp|refine Xs ?_ ?_<;>intro h<;>(try intro h')<;>(try simp[h])<;>try omega|refine Xg ?_|omega)
  refine Ey.i r rfl rfl ⟨i2,fun x hx=>?_⟩
  obtain⟨a,a0,a1,rfl⟩:=z8.1 hx
  exact i3 a a0 (by omega)
def f103(L:List Int)(h0:0<L.length)(h9:L.length≤4000000000):Wf T 146 [dI L] [] (Ey D.i fun r=>r∈L∧∀ x∈L,x≤r):=by
 refine Yg DL ?_
 simp[DL]
 (with_reducible repeat' first|refine Xk ?_<;>try simp|refine Xs ?_ ?_<;>intro h<;>(try intro h')<;>(try simp[h])<;>try omega|refine Xg ?_|omega)
 refine fh.e ((1,gt L 0):Int×Int) (fun y=>[(0,dI L),(3,.i y.2),(4,.i y.1)]) (fun y=>[]) (fun y=>1≤y.1∧y.1≤L.length∧y.2∈L∧∀ j:Int,0≤j→j<y.1→gt L j≤y.2) (fun y=>(L.length-y.1).toNat) ?_ ?_
 ·refine⟨by simp,by dsimp only;omega,ft (by omega) (by omega),fun j j0 j1=>?_⟩
  dsimp only at j1 ⊢
  rw[show j=0 by omega];exact dp _
 rintro⟨i,r⟩ ⟨i0,i1,i2,i3⟩
 dsimp only at i0 i1 i2 i3 ⊢
 by_cases hi:i<L.length
 ·simp[hi]
  (with_reducible repeat' first|refine Xk ?_<;>try simp|refine Xs ?_ ?_<;>intro h<;>(try intro h')<;>(try simp[h])<;>try omega|refine Xg ?_|omega)
  have hm:=ft (l:=L) (n:=i) (by omega) hi
  refine LJ.e (i+1,max r (gt L i)) ?_
  refine fQ ⟨?_,fun j j0 j1=>?_⟩
  ·dsimp only
   rcases(show max r (gt L i)=r∨max r (gt L i)=gt L i by omega)with e|e<;>rw[e]<;>assumption
  ·dsimp only at j1 ⊢
   by_cases e:j=i
   ·subst e;omega
   ·have:=i3 j j0 (by omega);omega
 ·simp[hi]
  (with_reducible repeat' first|refine Xk ?_<;>try simp|refine Xs ?_ ?_<;>intro h<;>(try intro h')<;>(try simp[h])<;>try omega|refine Xg ?_|omega)
  refine Ey.i r rfl rfl ⟨i2,fun x hx=>?_⟩
  obtain⟨a,a0,a1,rfl⟩:=z8.1 hx
  exact i3 a a0 (by omega)
def jD(v:List fe)(x:List Int)(o:Int):List Int:=(x.filter fun k=>decide ((gt v k).1=o)).map fun k=>(gt v k).2
def RP{v:List fe}{x:List Int}{o k:Int}(h:(gt v k).1=o):jD v (x ++ [k]) o=jD v x o ++ [(gt v k).2]:=by simp[jD,h]
def RO{v:List fe}{x:List Int}{o k:Int}(h:(gt v k).1≠o):jD v (x ++ [k]) o=jD v x o:=by simp[jD,h]
def RM(v:List fe)(x:List Int)(o:Int):(jD v x o).length≤x.length:=by
 unfold jD;rw[List.length_map];exact List.length_filter_le _ _
def Z7{v:List fe}{x:List Int}{o n:Int}:n∈jD v x o↔∃ k∈x,gt v k=(o,n):=by
 unfold jD
 rw[aw]
 constructor
 ·rintro⟨k,hk,rfl⟩
  rw[aP]at hk
  exact⟨k,hk.1,cS (by simpa using hk.2) rfl⟩
 ·rintro⟨k,hk,e⟩
  exact⟨k,aP.2 ⟨hk,by simp[e]⟩,by rw[e]⟩
def yY(v:List fe)(x:List Int)(r:fe):Prop:=
 (∃ m∈jD v x 3,(∀ y∈jD v x 3,m≤y)∧r=(1,m+1)) ∨
 (jD v x 3 = []∧(jD v x 1).length=x.length∧∃ m∈jD v x 1,(∀ y∈jD v x 1,y≤m)∧r=(3,m+1)) ∨
 (jD v x 3 = []∧¬ (jD v x 1≠[]∧(jD v x 1).length=x.length)∧r=(2,0))
def dL(l:List Int)(n:Nat):D:=if l = []then .eU else .eX n (l.length-1) 1 0 l.length
def rL(l:List Int):U:=if l = []then []else [.row 3 (l.length-1) (cl f1 l)]
def HL(a b:List Int):U:=.row 86 0 [.i 0,.i 0]::(rL a++rL b)
def f56(v:List fe)(x:List Int)(hx:∀ k∈x,0≤k∧k<v.length)(h9:x.length≤4000000000)(hv:∀ k:Int,0≤k→k<v.length→0≤(gt v k).2∧(gt v k).2≤4000):Wf T 89 [gS v,dN 1 f1 x] [] (Ey (fun r:fe=>.agg [.i r.1,.i r.2]) fun r=>yY v x r):=by
 have e0:∀ o,jD v [] o = []:=fun _=>rfl
 have e1:∀ n,dL [] n = .eU:=fun _=>rfl
 refine Yg FQ ?_
 simp[FQ]
 (with_reducible repeat' first|refine Xk ?_<;>try simp|refine Xs ?_ ?_<;>intro h<;>(try intro h')<;>(try simp[h])<;>try omega|refine Xg ?_|omega)
 refine fh.e (0:Int) (fun y=>[(0,gS v),(1,dN 1 f1 x),(4,.ptr 0 0 0),(5,dL (jD v (x.take y.toNat) 3) 1),(6,dL (jD v (x.take y.toNat) 1) (if jD v (x.take y.toNat) 3 = []then 1 else 2)),(9,dN 1 f1 x),(10,.i x.length),(11,.i y)]) (fun y=>HL (jD v (x.take y.toNat) 3) (jD v (x.take y.toNat) 1)) (fun y=>0≤y∧y≤x.length) (fun y=>(x.length-y).toNat) ?_ ?_ (by simp[e0,e1]) (by simp[e0,HL,rL])
 ·simp
 rintro i ⟨i0,i1⟩
 have BY:=RM v (x.take i.toNat) 3
 have ji:=RM v (x.take i.toNat) 1
 rw[aI]at BY ji
 by_cases hi:i<x.length
 ·have hk:=hx _ (ft i0 hi)
  have oV:(x.take (i+1).toNat)=x.take i.toNat ++ [gt x i]:=by
   rw[show(i+1).toNat=i.toNat+1 by omega,dm,List.getElem?_eq_getElem (by omega),dh,← kl i0 hi]
  have c0:=UN (v:=v) (n:=gt x i) (by omega)
  simp[hi]
  generalize gt x i=k at *
  generalize hA:jD v (x.take i.toNat) 3=a at *
  generalize hB:jD v (x.take i.toNat) 1=b at *
  have kL:=hv k hk.1 hk.2
  have q3:(gt v k).1=3→jD v (x.take (i+1).toNat) 3=a ++ [(gt v k).2]:=fun h=>by rw[oV,RP h,hA]
  have SH:(gt v k).1≠3→jD v (x.take (i+1).toNat) 3=a:=fun h=>by rw[oV,RO h,hA]
  have q1:(gt v k).1=1→jD v (x.take (i+1).toNat) 1=b ++ [(gt v k).2]:=fun h=>by rw[oV,RP h,hB]
  have SG:(gt v k).1≠1→jD v (x.take (i+1).toNat) 1=b:=fun h=>by rw[oV,RO h,hB]
  have la:a = []∨0<a.length:=by cases a<;>simp
  have lb:b = []∨0<b.length:=by cases b<;>simp
  have fM:((x.length:Int)-(i+1)).toNat<((x.length:Int)-i).toNat∧0≤i+1∧i+1≤x.length:=by omega
  by_cases ha:a = []<;>by_cases hb:b = []
  all_goals
   first|have la:=la.resolve_left ha|skip
   first|have lb:=lb.resolve_left hb|skip
   (with_reducible repeat' first|refine Xk ?_<;>try simp[ha,hb,dL,rL,HL]|refine Xs ?_ ?_<;>intro h<;>(try intro h')<;>(try simp[h,ha,hb,dL,rL,HL])<;>try omega|refine Xg ?_|omega)
  all_goals
   first
    | (have g3:=q3 ‹_›;have g1:=SG (by omega);refine LJ.i (i+1) (by simp[g3,g1,dL,ha,hb]<;>omega) (by simp[g3,g1,HL,rL,ha,hb,jg]<;>omega) rfl rfl fM)
    | (have g3:=SH ‹_›;have g1:=q1 ‹_›;refine LJ.i (i+1) (by simp[g3,g1,dL,ha,hb]<;>omega) (by simp[g3,g1,HL,rL,ha,hb,jg]<;>omega) rfl rfl fM)
    | (have g3:=SH (by assumption);have g1:=SG (by assumption);refine LJ.i (i+1) (by simp[g3,g1,dL,ha,hb]) (by simp[g3,g1,HL,rL,ha,hb]) rfl rfl fM)
 ·rw[ai (by omega)]at *
  simp[hi]
  by_cases ha:jD v x 3 = []<;>by_cases hb:jD v x 1 = []
  all_goals
   simp[ha,hb,dL,rL,HL]
   (with_reducible repeat' first|refine Xk ?_<;>try simp[ha,hb,dL,rL,HL]|refine Xs ?_ ?_<;>intro h<;>(try intro h')<;>(try simp[h,ha,hb,dL,rL,HL])<;>try omega|refine Xg ?_|omega)
  all_goals
   first
    | exact Ey.i (2,0) rfl rfl (.inr (.inr ⟨ha,fun⟨h1,h2⟩=>by omega,rfl⟩))
    | exact Ey.i (2,0) rfl rfl (.inr (.inr ⟨ha,fun⟨h1,h2⟩=>h1 hb,rfl⟩))
    | exact absurd (ay.2 ha) ‹_›
    | exact absurd (ay.2 hb) ‹_›
    | skip
  all_goals
   refine fG.s (by simp[ha,hb];rfl) ?_
  all_goals
   first
    | refine fG.rq rfl rfl (f102 (jD v x 3) (by omega) (by omega)) (by simp) (fun _=>by simp[flat]) (fun _=>by simp) ?_
    | refine fG.rq rfl rfl (f103 (jD v x 1) (by omega) (by omega)) (by simp) (fun _=>by simp[flat]) (fun _=>by simp) ?_
  all_goals
   rintro r ⟨r1,r2⟩
   have hr:0≤r∧r≤4000:=by
    obtain⟨q,hq,e⟩:=Z7.1 r1
    have:=hv q (hx q hq).1 (hx q hq).2
    rwa [e]at this
   simp[ha,hb]
   (with_reducible repeat' first|refine Xk ?_<;>try simp[ha,hb]|refine Xs ?_ ?_<;>intro h<;>(try intro h')<;>(try simp[h,ha,hb])<;>try omega|refine Xg ?_|omega)
  all_goals
   first
    | exact Ey.i (1,r+1) rfl rfl (.inl ⟨r,r1,r2,rfl⟩)
    | exact Ey.i (3,r+1) rfl rfl (.inr (.inl ⟨ha,by omega,r,r1,r2,rfl⟩))
def RN(v:List fe)(x:List Int)(o:Int):jD v x o=js (x.map fun k=>gt v k) o:=by
 unfold jD js
 rw[List.filter_map,cv]
 rfl
def yY.mk{v:List fe}{x:List Int}{r:fe}(h:yY v x r):r=tt (x.map fun k=>gt v k):=by
 unfold tt
 rw[← RN,← RN,List.length_map]
 rcases h with⟨m,hm,zJ,rfl⟩|⟨h3,h1,m,hm,ix,rfl⟩|⟨h3,h1,rfl⟩
 ·have gE:jD v x 3≠[]:=fun e=>by rw[e]at hm;cases hm
  have a:=Me hm
  have b:=zJ _ (Mf gE)
  rw[if_pos gE,show x9 (jD v x 3)=m by omega]
 ·have gE:jD v x 1≠[]:=fun e=>by rw[e]at hm;cases hm
  have a:=LO hm
  have b:=ix _ (Mb gE)
  have hx:(x.map fun k=>gt v k)≠[]:=fun e=>by
   have e0:=List.map_eq_nil_iff.1 e
   subst e0
   exact gE rfl
  rw[if_neg (fun h=>h h3),if_pos ⟨hx,h1⟩,show x7 (jD v x 1)=m by omega]
 ·rw[if_neg (fun h=>h h3),if_neg]
  rintro⟨a,b⟩
  refine h1 ⟨fun e=>a ?_,b⟩
  rw[e]at b
  rw[aW b.symm]
  rfl
def yY.iff{A:pR}{v:List fe}{i:Int}{r:fe}(h0:∀ k∈gt A.nx i,0≤(gt v k).2)(ho:A.ov i=false)(hr:yY v (gt A.nx i) r):jM A v i↔gt v i=r:=by
 rw[hr.mk]
 exact RJ h0 ho
def fG.w{T:gP}{f:FuncId}{args:List D}{dst:Option Nat}{s s':St}{K:St→Prop}(hs:s=s')(h:fG T f args dst s' K .mk):fG T f args dst s K .mk:=by subst hs;exact h
def R7{l:List fe}{x:fe}{o:Int}(h:x.1=o):js (l ++ [x]) o=js l o ++ [x.2]:=by simp[js,h]
def R6{l:List fe}{x:fe}{o:Int}(h:x.1≠o):js (l ++ [x]) o=js l o:=by simp[js,h]
@[simp] theorem anH(o:Int):js [] o = []:=rfl
theorem R5(l:List fe)(o:Int):(js l o).length≤l.length:=by
 unfold js;rw[List.length_map];exact List.length_filter_le _ _
def agF{α:Type}[Inhabited α]{l:List α}{i:Int}(i0:0≤i)(i1:i<l.length):l.take (i+1).toNat=l.take i.toNat ++ [gt l i]:=by
 rw[show(i+1).toNat=i.toNat+1 by omega,dm,List.getElem?_eq_getElem (by omega),dh,← kl i0 i1]
def VP(l:List fe)(h0:0<l.length)(h9:l.length≤4000000000)(hv:∀ x∈l,0≤x.2∧x.2≤4000):Wf T 135 [gS l] [] (Is (.agg [.i (tt l).1,.i (tt l).2])):=by
 refine Yg DZ ?_
 simp[DZ]
 refine fh.e ((0,0,0):Int×Nat×Nat) (fun y=>[(0,gS l),(2,.ptr 0 0 0),(3,.eX 1 y.2.1 1 0 (js (l.take y.1.toNat) 3).length),(4,.eX 2 y.2.2 1 0 (js (l.take y.1.toNat) 1).length),(9,gS l),(10,.i l.length),(11,.i y.1)]) (fun y=>[.row 86 0 [.i 0,.i 0],.row 3 y.2.1 (cl f1 (js (l.take y.1.toNat) 3)),.row 3 y.2.2 (cl f1 (js (l.take y.1.toNat) 1))]) (fun y=>0≤y.1∧y.1≤l.length) (fun y=>(l.length-y.1).toNat) ?_ ?_
 ·simp
 rintro⟨i,ga,gb⟩ ⟨i0,i1⟩
 dsimp only at i0 i1 ⊢
 have BY:=R5 (l.take i.toNat) 3
 have ji:=R5 (l.take i.toNat) 1
 rw[aI]at BY ji
 by_cases hi:i<l.length
 ·have e:=agF (l:=l) i0 hi
  have a3:(gt l i).1=3→js (l.take (i+1).toNat) 3=js (l.take i.toNat) 3 ++ [(gt l i).2]:=fun h=>by rw[e,R7 h]
  have Jm:(gt l i).1≠3→js (l.take (i+1).toNat) 3=js (l.take i.toNat) 3:=fun h=>by rw[e,R6 h]
  have a1:(gt l i).1=1→js (l.take (i+1).toNat) 1=js (l.take i.toNat) 1 ++ [(gt l i).2]:=fun h=>by rw[e,R7 h]
  have Jl:(gt l i).1≠1→js (l.take (i+1).toNat) 1=js (l.take i.toNat) 1:=fun h=>by rw[e,R6 h]
  obtain⟨A,hA⟩:∃ A,js (l.take i.toNat) 3=A:=⟨_,rfl⟩
  obtain⟨B,hB⟩:∃ B,js (l.take i.toNat) 1=B:=⟨_,rfl⟩
  rw[hA]at BY a3 Jm ⊢
  rw[hB]at ji a1 Jl ⊢
  have fM:((l.length:Int)-(i+1)).toNat<((l.length:Int)-i).toNat∧0≤i+1∧i+1≤l.length:=by omega
  simp[hi]
  (with_reducible repeat' first|refine Xk ?_<;>try simp|refine Xs ?_ ?_<;>intro h<;>(try intro h')<;>(try simp[h])<;>try omega|refine Xg ?_|omega)
  ·have g3:=a3 ‹_›
   have g1:=Jl (by omega)
   refine LJ.i (i+1,ga+1,gb) (by simp[g3,g1]) (by simp[g3,g1]) rfl rfl fM
  ·have g3:=Jm (by omega)
   have g1:=a1 ‹_›
   refine LJ.i (i+1,ga,gb+1) (by simp[g3,g1]) (by simp[g3,g1]) rfl rfl fM
  ·have g3:=Jm (by assumption)
   have g1:=Jl (by assumption)
   refine LJ.i (i+1,ga,gb) (by simp[g3,g1]) (by simp[g3,g1]) rfl rfl fM
 ·have jB:i=l.length:=by omega
  subst jB
  rw[ai (by omega)]at *
  obtain⟨r,hr⟩:∃ r,tt l=r:=⟨_,rfl⟩
  have hb:∀ o,∀ y∈js l o,0≤y∧y≤4000:=fun o y hy=>by have:=hv _ (x8.1 hy);exact this
  rw[hr]
  unfold tt at hr
  obtain⟨A,hA⟩:∃ A,js l 3=A:=⟨_,rfl⟩
  obtain⟨B,hB⟩:∃ B,js l 1=B:=⟨_,rfl⟩
  have Qi:=hb 3
  have Qj:=hb 1
  rw[hA]at BY hr Qi ⊢
  rw[hB]at ji hr Qj ⊢
  have rX:l≠[]:=ay.1 h0
  simp[hi]
  by_cases hz:A = []
  ·rw[if_neg (fun h=>h hz)]at hr
   subst hz
   by_cases BI:B.length=l.length
   ·rw[if_pos ⟨rX,BI⟩]at hr
    subst hr
    simp[BI]
    (with_reducible repeat' first|refine Xk ?_<;>try simp|refine Xs ?_ ?_<;>intro h<;>(try intro h')<;>(try simp[h])<;>try omega|refine Xg ?_|omega)
    refine fG.w (by simp;rfl) ?_
    refine fG.rq rfl rfl (f103 B (by omega) (by omega)) (by simp[BI]) (fun _=>by simp[flat]) (fun _=>by simp) ?_
    rintro r ⟨r1,r2⟩
    have e1:=LO r1
    have e2:=r2 _ (Mb (l:=B) fun e=>by rw[e]at r1;cases r1)
    have e:r=x7 B:=by omega
    have Yp:=Qj r r1
    subst e
    simp
    (with_reducible repeat' first|refine Xk ?_<;>try simp|refine Xs ?_ ?_<;>intro h<;>(try intro h')<;>(try simp[h])<;>try omega|refine Xg ?_|omega)
   ·rw[if_neg (fun h=>BI h.2)]at hr
    subst hr
    simp[BI]
    (with_reducible repeat' first|refine Xk ?_<;>try simp|refine Xs ?_ ?_<;>intro h<;>(try intro h')<;>(try simp[h])<;>try omega|refine Xg ?_|omega)
  ·rw[if_pos hz]at hr
   subst hr
   have p9:0<A.length:=ay.2 hz
   simp[p9]
   (with_reducible repeat' first|refine Xk ?_<;>try simp|refine Xs ?_ ?_<;>intro h<;>(try intro h')<;>(try simp[h])<;>try omega|refine Xg ?_|omega)
   refine fG.w (by simp;rfl) ?_
   refine fG.rq rfl rfl (f102 A (by omega) (by omega)) (by simp) (fun _=>by simp[flat]) (fun _=>by simp) ?_
   rintro r ⟨r1,r2⟩
   have e1:=Me r1
   have e2:=r2 _ (Mf hz)
   have e:r=x9 A:=by omega
   have Yp:=Qi r r1
   subst e
   simp
   (with_reducible repeat' first|refine Xk ?_<;>try simp|refine Xs ?_ ?_<;>intro h<;>(try intro h')<;>(try simp[h])<;>try omega|refine Xg ?_|omega)
set_option maxHeartbeats 4000000
def OD{n:Nat}{N:Int→Int}{K:Int→Prop}(hK:∀ i,K i→(0≤i∧i<n)∧0≤N i)(h:∀ i,K i→N i=0∨∃ k,K k∧N k=N i-1):∀ i,K i→N i<n:=by
 have all:∀ (a:Nat) (i:Int),K i→N i=a→∀ m:Nat,m≤a→∃ q,K q∧N q=m:=by
  intro a
  induction a with
  | zero=>exact fun i hi e m hm=>⟨i,hi,by omega⟩
  | succ a ih=>
   intro i hi e m hm
   by_cases em:m=a+1
   ·exact⟨i,hi,by omega⟩
   rcases h i hi with h1|⟨k,hk,h1⟩
   ·omega
   ·exact ih k hk (by omega) m (by omega)
 intro i hi
 have h0:=hK i hi
 have:=Io (eo (n:=(N i).toNat+1)) (m:=(upto n).map fun k=>(N k).toNat) fun x hx=>by
  obtain⟨q,hq,e⟩:=all (N i).toNat i hi (by omega) x (by have:=bC.1 hx;omega)
  exact aw.2 ⟨q,ku.2 (hK q hq).1,by rw[e];rfl⟩
 simp[upto]at this
 omega
def Z1{A:pR}{n:Nat}{v:List fe}(hS:∀ i:Int,0≤i→i<n→∀ k∈gt A.nx i,0≤k∧k<n)(h:∀ i:Int,0≤i→i<n→jM A v i){i:Int}(i0:0≤i)(i1:i<n):0≤(gt v i).2∧(gt v i).2<n:=by
 refine⟨(h i i0 i1).n0,OD (N:=fun i=>(gt v i).2) (K:=fun i=>0≤i∧i<n) (fun i hi=>⟨hi,(h i hi.1 hi.2).n0⟩) (fun i hi=>?_) i ⟨i0,i1⟩⟩
 rcases h i hi.1 hi.2 with⟨_,e2⟩|⟨_,⟨a,a1,e2,⟨k,hk,ek⟩,_⟩|⟨a,a1,e2,_,k,hk,ek⟩|⟨e2,_⟩⟩
 ·left;rw[e2]
 ·right;exact⟨k,hS i hi.1 hi.2 k hk,by rw[e2,ek]⟩
 ·right;exact⟨k,hS i hi.1 hi.2 k hk,by rw[e2,ek]⟩
 ·left;rw[e2]
def kV(v:List Kn):List fe:=v.map fun x=>(x.1,x.2.1)
def kB(v:List Kn):List Bool:=v.map fun x => !x.2.2
def xp{v:List Kn}{k:Int}(k0:0≤k)(k1:k<v.length):gt (kV v) k=((gt v k).1,(gt v k).2.1):=by
 rw[kl k0 (by unfold kV;rw[List.length_map];exact k1),kl k0 k1];unfold kV;rw[List.getElem_map]
def s0{v:List Kn}{k:Int}(k0:0≤k)(k1:k<v.length):gt (kB v) k = !(gt v k).2.2:=by
 rw[kl k0 (by unfold kB;rw[List.length_map];exact k1),kl k0 k1];unfold kB;rw[List.getElem_map]
@[local simp] theorem anG:max (0:Int) (-1)=0:=by decide
noncomputable def n5(v:List Kn)(x:List Int)(n:Int):Kn:=if x4 (kV v) (kB v) x n then(1,n,true)else if (kN (kV v) (kB v) x x.length).1=x.length∧(kN (kV v) (kB v) x x.length).2=n-1 then(3,n,true)else(0,0,false)
def PE(v:List Kn)(l:List Int)(n:Int)(hn:1≤n∧n≤4000)(h0:0<l.length)(hl:l.length<2 ^ 40)(hr:∀ k∈l,0≤k∧k<v.length)(hw:∀ k∈l,(gt v k).2.2=true→0≤(gt v k).2.1) :
  Wf T 129 [.sl 3 (v.map fK),dI l,.i n] [] (Is (.agg [.i (n5 v l n).1,.i (n5 v l n).2.1,.b (n5 v l n).2.2])):=by
 refine Yg FY ?_
 simp[FY]
 refine fh.e (0:Int) (fun y=>[(0,.sl 3 (v.map fK)),(1,dI l),(2,.i n),(6,.ptr 0 0 0),(7,.i (kN (kV v) (kB v) l y.toNat).1),(8,.i (max 0 (kN (kV v) (kB v) l y.toNat).2)),(9,.i y)]) (fun y=>[.row 245 0 [.i 0,.i 0,.b false]]) (fun y=>0≤y∧y≤l.length∧∀ k∈l.take y.toNat,¬ (gt (kB v) k=false∧gt (kV v) k=(3,n-1))) (fun y=>(l.length-y).toNat) ?_ ?_
 ·simp
 rintro j ⟨j0,j1,j2⟩
 dsimp only at j0 j1 j2 ⊢
 by_cases hj:j<l.length
 ·have hk:=hr _ (ft j0 hj)
  have uj:=agR (v:=kV v) (b:=kB v) (x:=l) j0
  have hV:=xp hk.1 hk.2
  have hB:=s0 hk.1 hk.2
  have hwi:=Jh (kV v) (kB v) l j.toNat
  have mu:¬ (gt (kB v) (gt l j)=false∧gt (kV v) (gt l j)=(3,n-1))→∀ k∈l.take (j+1).toNat,¬ (gt (kB v) k=false∧gt (kV v) k=(3,n-1)):=fun h k hk=>by
   rw[iD j0 hj]at hk
   rcases List.mem_append.1 hk with hk|hk
   ·exact j2 k hk
   ·rw[List.mem_singleton.1 hk];exact h
  rw[hV,hB]at mu uj
  simp[hj]
  generalize gt v (gt l j)=r at *
  obtain⟨o,m,s⟩:=r
  dsimp only at mu uj hV hB ⊢
  (with_reducible repeat' first|refine Xk ?_<;>try simp|refine Xs ?_ ?_<;>intro h<;>(try intro h')<;>(try simp[h])<;>try omega|refine Xg ?_|omega)
  ·have hl:x4 (kV v) (kB v) l n:=⟨_,ft j0 hj,by rw[hB];simp[*],by rw[hV];simp[*]⟩
   simp[n5,hl]
  ·refine LJ.i (j+1) (by first|rfl|simp[uj, *]) (by first|rfl|simp[uj, *]) rfl rfl ?_
   exact fQ (mu (by simp[*]))
  ·refine LJ.i (j+1) (by first|rfl|simp[uj, *]) (by first|rfl|simp[uj, *]) rfl rfl ?_
   exact fQ (mu (by simp[*]))
  ·refine LJ.i (j+1) (by first|rfl|simp[uj, *]) (by first|rfl|simp[uj, *]) rfl rfl ?_
   exact fQ (mu (by simp[*]))
 ·have xI:j=l.length:=by omega
  subst xI
  have hl:¬ x4 (kV v) (kB v) l n:=fun⟨k,hk,h⟩=>j2 k (by rw[ky (by omega)];exact hk) h
  have mr:(kN (kV v) (kB v) l l.length).1=l.length→max 0 (kN (kV v) (kB v) l l.length).2=(kN (kV v) (kB v) l l.length).2:=fun e=>by
   have h1:=Ji _ e 0 h0
   have h2:=Nd _ e 0 h0
   have hm:=ft (l:=l) (n:=((0:Nat):Int)) (by omega) (by omega)
   have hk:=hr _ hm
   rw[s0 hk.1 hk.2]at h2
   rw[xp hk.1 hk.2]at h1
   have:=hw _ hm (by simpa using h2.1)
   dsimp only at h1
   omega
  simp[hj]
  (with_reducible repeat' first|refine Xk ?_<;>try simp|refine Xs ?_ ?_<;>intro h<;>(try intro h')<;>(try simp[h])<;>try omega|refine Xg ?_|omega)
  ·rw[mr ‹_›]at h;simp[n5,hl, *]
  ·rw[mr ‹_›]at h;simp[n5,hl, *]
  ·simp[n5,hl, *]
set_option maxHeartbeats 8000000
def WW{v:List fe}(hv:∀ k:Int,0≤k→k<v.length→0≤(gt v k).2∧(gt v k).2≤4000){x:List Int}(hx:∀ k∈x,0≤k∧k<v.length):∀ y∈x.map (fun k=>gt v k),0≤y.2∧y.2≤4000:=fun y hy=>by
 obtain⟨k,hk,rfl⟩:=aw.1 hy
 exact hv k (hx k hk).1 (hx k hk).2
def VM(g:eY)(hg:gh g)(l:List Pos)(hc:oz g l)(h0:0<l.length)(v:List fe)(hv:v.length=l.length)(hb:∀ k:Int,0≤k→k<v.length→0≤(gt v k).2∧(gt v k).2≤4000)(i:Int)(i0:0≤i)(i1:i<l.length) :
  Wf T 81 [dG g,gA l,gS v,.i i] [] (Is (.tup [.b (decide (jM (lz g l (fw g l)) v i)),.i 0])):=by
 have hlen:=hc.len
 have fM:=(o5 hc (i:=i) i0 i1).2
 have gE:=(o5 hc (i:=i) i0 i1).1
 have hp:=hc.ok _ (ft i0 i1)
 have vN:(fw g l).length=l.length:=by simp[fw]
 have qj:(gt (fw g l) i).length≤4000000000:=by
  rw[gE,List.length_map]
  have:=wi hg hp;omega
 have BU:(stat g (gt l i)).2=true→(jM (lz g l (fw g l)) v i↔gt v i=((stat g (gt l i)).1,0)):=fun h=>RK (A:=lz g l (fw g l)) h
 have uk:(stat g (gt l i)).2=false→(jM (lz g l (fw g l)) v i↔gt v i=tt ((gt (fw g l) i).map fun k=>gt v k)):=fun h=>
  RJ (A:=lz g l (fw g l)) (fun k hk=>(hb k (fM k hk).1 (by rw[hv];exact(fM k hk).2)).1) h
 have zT:(stat g (gt l i)).2=false→0<(gt (fw g l) i).length:=fun h=>by
  rw[gE,List.length_map]
  have:ig g (gt l i)≠[]:=fun e=>by unfold stat at h;simp[e]at h
  exact ay.2 this
 have cn:=f52 g hg l hc h0
 have cs:=f54 g hg (gt l i) hp
 generalize hLe:jM (lz g l (fw g l)) v i=L at *
 obtain⟨st,fm⟩:∃ st,stat g (gt l i)=st:=⟨_,rfl⟩
 obtain⟨nx,oV⟩:∃ nx,fw g l=nx:=⟨_,rfl⟩
 rw[fm]at cs BU uk zT
 rw[oV]at fM qj uk zT cn vN
 obtain⟨o,ov⟩:=st
 dsimp only at BU uk zT cs
 refine Yg DS ?_
 simp[DS]
 refine Yc (cn) ?_
 simp
 (with_reducible repeat' first|refine Xk ?_<;>try simp|refine Xs ?_ ?_<;>intro h<;>(try intro h')<;>(try simp[h])<;>try omega|refine Xg ?_|omega)
 refine Yt (cs) ?_
 simp
 cases ov
 ·have zT:=zT rfl
  have uk:=uk rfl
  simp[xi]
  (with_reducible repeat' first|refine Xk ?_<;>try simp|refine Xs ?_ ?_<;>intro h<;>(try intro h')<;>(try simp[h])<;>try omega|refine Xg ?_|omega)
  obtain⟨x,hx⟩:∃ x,gt nx i=x:=⟨_,rfl⟩
  rw[hx]at fM qj zT uk ⊢
  refine fh.e ((0,List.replicate x.length (0,0)):Int×List fe) (fun y=>[(2,gS v),(3,.i i),(14,.eX 1 0 2 0 x.length),(66,dN 1 f1 x),(67,.i x.length),(68,.i y.1)]) (fun y=>[.row 43 0 g.cells,.row 86 0 (cl fS y.2)]) (fun y=>(0≤y.1∧y.1≤x.length)∧y.2.length=x.length∧∀ j:Int,0≤j→j<y.1→gt y.2 j=gt v (gt x j)) (fun y=>(x.length-y.1).toNat) ?_ ?_
  ·exact⟨by simp,by simp,fun j j0 j1=>absurd j1 (by dsimp only;omega)⟩
  rintro⟨k,M⟩ ⟨⟨k0,k1⟩,hM,Ks⟩
  dsimp only at k0 k1 hM Ks ⊢
  by_cases hk:k<x.length
  ·have hkx:=fM _ (ft k0 hk)
   simp[hk]
   (with_reducible repeat' first|refine Xk ?_<;>try simp|refine Xs ?_ ?_<;>intro h<;>(try intro h')<;>(try simp[h])<;>try omega|refine Xg ?_|omega)
   refine LJ.i (k+1,pt M k (gt v (gt x k))) (by first|rfl|simp[JE]) (by first|rfl|simp[JE]) rfl rfl ?_
   refine⟨by omega,jG,by rw[il k0 (by omega)];exact hM,fun j j0 j1=>?_⟩
   dsimp only at j1 ⊢
   rw[qv k0 (by omega) j0]
   by_cases e:j=k
   ·rw[if_pos e,e]
   ·rw[if_neg e];exact Ks j j0 (by omega)
  ·have KY:k=x.length:=by omega
   have e:M=x.map fun k=>gt v k:=by
    refine ct (by rw[List.length_map];exact hM) fun j j0 j1=>?_
    have h:=Ks j (by omega) (by rw[KY];omega)
    rw[kl (by omega) (by omega),kl (l:=x) (by omega) (by omega)]at h
    rw[List.getElem_map]
    exact h
   have Qk:=WW hb (x:=x) (fun k hk=>by rw[hv];exact fM k hk)
   rw[← e]at Qk uk
   have cm:=VP M (by omega) (by omega) Qk
   obtain⟨r,hr⟩:∃ r,tt M=r:=⟨_,rfl⟩
   rw[hr]at cm uk
   obtain⟨r1,r2⟩:=r
   dsimp only at cm
   simp[hk]
   (with_reducible repeat' first|refine Xk ?_<;>try simp|refine Xs ?_ ?_<;>intro h<;>(try intro h')<;>(try simp[h])<;>try omega|refine Xg ?_|omega)
   refine iC.r rfl rfl cm (by simp[hM]) rfl (by simp) ?_
   simp
   (with_reducible repeat' first|refine Xk ?_<;>try simp|refine Xs ?_ ?_<;>intro h<;>(try intro h')<;>(try simp[h])<;>try omega|refine Xg ?_|omega)
   rw[← cD]
   exact decide_eq_decide.2 (by rw[uk,eT])
 ·have BU:=BU rfl
  simp
  (with_reducible repeat' first|refine Xk ?_<;>try simp|refine Xs ?_ ?_<;>intro h<;>(try intro h')<;>(try simp[h])<;>try omega|refine Xg ?_|omega)
  rw[← cD]
  exact decide_eq_decide.2 (by rw[BU,eT])
def Wl(g:eY)(hg:gh g)(l:List Pos)(hc:oz g l)(h0:0<l.length)(v:List fe)(hv:v.length=l.length)(hb:∀ k:Int,0≤k→k<v.length→0≤(gt v k).2∧(gt v k).2≤4000) :
  Wf T 42 [dG g,gA l,gS v] [] (Ey (fun n:Int=>.tup [.i n,.i 0]) fun n=>n<0↔∀ k:Int,0≤k→k<l.length→jM (lz g l (fw g l)) v k):=by
 have hlen:=hc.len
 have vN:(fw g l).length=l.length:=by simp[fw]
 have fM:=fun i i0 i1=>(o5 hc (i:=i) i0 i1).2
 have iy:∀ k:Int,0≤k→k<l.length→(gt (fw g l) k).length≤4000000000:=fun k k0 k1=>by
  rw[(o5 hc k0 k1).1,List.length_map]
  have:=wi hg (hc.ok _ (ft k0 k1));omega
 refine Yg FJ ?_
 simp[FJ]
 refine Yc (f52 g hg l hc h0) ?_
 simp
 (with_reducible repeat' first|refine Xk ?_<;>try simp|refine Xs ?_ ?_<;>intro h<;>(try intro h')<;>(try simp[h])<;>try omega|refine Xg ?_|omega)
 refine fh.e (0:Int) (fun y=>[(2,gS v),(3,.ptr 0 0 0),(8,.sl 1 ((fw g l).map fN)),(30,gA l),(31,.i l.length),(32,.i y)]) (fun y=>[.row 43 0 g.cells]) (fun y=>(0≤y∧y≤l.length)∧∀ k:Int,0≤k→k<y→jM (lz g l (fw g l)) v k) (fun y=>(l.length-y).toNat) ?_ ?_
 ·exact⟨by simp,fun k k0 k1=>by omega⟩
 rintro i ⟨⟨i0,i1⟩,hI⟩
 dsimp only at i0 i1 hI ⊢
 have mu:jM (lz g l (fw g l)) v i→∀ k:Int,0≤k→k<i+1→jM (lz g l (fw g l)) v k:=fun h k k0 k1=>by
  by_cases e:k=i
  ·rw[e];exact h
  ·exact hI k k0 (by omega)
 by_cases hi:i<l.length
 ·have hp:=hc.ok _ (ft i0 hi)
  have ta:¬ jM (lz g l (fw g l)) v i→Ex (fun n:Int=>.tup [.i n,.i 0]) (fun n=>n<0↔∀ k:Int,0≤k→k<l.length→jM (lz g l (fw g l)) v k) (.tup [.i i,.i 0]) []:=fun h=>
   ⟨i,rfl,rfl,⟨fun h2=>by omega,fun h2=>absurd (h2 i i0 hi) h⟩⟩
  simp[hi,xi]
  (with_reducible repeat' first|refine Xk ?_<;>try simp|refine Xs ?_ ?_<;>intro h<;>(try intro h')<;>(try simp[h])<;>try omega|refine Xg ?_|omega)
  refine Yq (f56 v (gt (fw g l) i) (fun k hk=>by rw[hv];exact fM i i0 hi k hk) (iy i i0 hi) (fun k k0 k1=>hb k k0 k1)) fun r hr=>?_
  simp
  (with_reducible repeat' first|refine Xk ?_<;>try simp|refine Xs ?_ ?_<;>intro h<;>(try intro h')<;>(try simp[h])<;>try omega|refine Xg ?_|omega)
  refine Yc (f54 g hg (gt l i) hp) ?_
  simp
  have HG:(stat g (gt l i)).2=true→(jM (lz g l (fw g l)) v i↔gt v i=((stat g (gt l i)).1,0)):=fun h=>RK (A:=lz g l (fw g l)) h
  have QN:(stat g (gt l i)).2=false→(jM (lz g l (fw g l)) v i↔gt v i=r):=fun h=>yY.iff (A:=lz g l (fw g l)) (fun k hk=>(hb k (fM i i0 hi k hk).1 (by rw[hv];exact(fM i i0 hi k hk).2)).1) h hr
  (with_reducible repeat' first|refine Xk ?_<;>try simp|refine Xs ?_ ?_<;>intro h<;>(try intro h')<;>(try simp[h])<;>try omega|refine Xg ?_|omega)
  ·have hL:=(HG ‹_›).2 (cS (by assumption) (by assumption))
   refine LJ.e (i+1) ?_
   exact⟨by omega,jG,mu hL⟩
  ·have hL:¬ jM (lz g l (fw g l)) v i:=fun h=>absurd ((HG ‹_›).1 h) (by intro e;simp_all)
   obtain⟨n,h1,h2,h3⟩:=ta hL
   exact Ey.i n h1 h2 h3
  ·have hL:=(QN (by simp_all)).2 (cS (by simp_all) (by simp_all))
   refine LJ.e (i+1) ?_
   exact⟨by omega,jG,mu hL⟩
  ·have hL:¬ jM (lz g l (fw g l)) v i:=fun h=>absurd ((QN (by simp_all)).1 h) (by intro e;simp_all)
   obtain⟨n,h1,h2,h3⟩:=ta hL
   exact Ey.i n h1 h2 h3
 ·have jB:i=l.length:=by omega
  subst jB
  simp
  (with_reducible repeat' first|refine Xk ?_<;>try simp|refine Xs ?_ ?_<;>intro h<;>(try intro h')<;>(try simp[h])<;>try omega|refine Xg ?_|omega)
  exact Ey.i (-1) rfl rfl ⟨fun _=>hI,fun _=>by omega⟩
