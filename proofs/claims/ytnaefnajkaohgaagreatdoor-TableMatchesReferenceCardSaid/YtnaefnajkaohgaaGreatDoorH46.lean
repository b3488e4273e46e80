/- 46 -/
import Derived.Test.YtnaefnajkaohgaaGreatDoorH45
set_option linter.all false
namespace Go.Proofs.YtnaefnajkaohgaaGreatDoor
open Go Go.AL Classical
set_option maxRecDepth 10000
set_option maxHeartbeats 16000000
def f43(g:eH)(hg:fe g)(l:List Pos)(hc:jo g l):Wf T 43 [dG g,e7 l] [] (Is (.b true)):=by
 refine Yg FG ?_
 simp[FG]
 refine Yc (f37 g hg l hc) ?_
 simp
def Vy(g:eH)(hg:fe g)(l:List Pos)(hc:jo g l)(m:List Int)(n:Int)(hn:n<1):Wf T 19 [dG g,.agg [dI m],e7 l,.i n] [] (Is (.agg [.eG,.i 0,.i 150])):=by
 refine Yg wH ?_
 simp[wH]
 refine Yc (f43 g hg l hc) ?_
 simp
 (with_reducible repeat' first|refine Xk ?_<;>try simp|refine Xs ?_ ?_<;>intro h<;>(try intro h')<;>(try simp[h])<;>try omega|refine Xg ?_|omega)
theorem Mx{n:Nat}{part:List Int}(h:rm n part):∀ (d:Nat) (i:Int),0≤i→i+d+1<part.length→gt part i<gt part (i+d+1)
 | 0,i,i0,i1=>by
  have:=(h (i+1) (by omega) (by omega)).1
  unfold mU at this
  rw[if_neg (by omega),show i+1-1=i by omega]at this
  simpa using this
 | d+1,i,i0,i1=>by
  have h1:=Mx h d i i0 (by omega)
  have:=(h (i+d+1+1) (by omega) (by omega)).1
  unfold mU at this
  rw[if_neg (by omega),show i+d+1+1-1=i+d+1 by omega]at this
  rw[show i+((d+1:Nat):Int)+1=i+d+1+1 by omega]
  omega
def afh{n:Nat}{part:List Int}(h:rm n part):∀ i∈part,0≤i∧i<n:=fun i hi=>by
 obtain⟨k,k0,k1,rfl⟩:=pc.1 hi
 refine⟨?_,(h k k0 k1).2⟩
 by_cases e:k=0
 ·have:=(h k k0 k1).1
  subst e
  rw[yi]at this
  omega
 ·have h0:=(h 0 (by omega) (by omega)).1
  rw[yi]at h0
  have:=Mx h (k.toNat-1) 0 (by omega) (by omega)
  rw[show(0:Int)+((k.toNat-1:Nat):Int)+1=k by omega]at this
  omega
def Sc{g:eH}(hg:fe g){l:List Pos}(hc:jo g l){part:List Int}(h:rm l.length part){n:Int}(hn:1≤n∧n≤9223372036854775807):mG g l (eS g l) part n:=by
 have hr:=afh h
 have lz:part.Nodup:=by
  rw[List.nodup_iff_pairwise_ne,aV]
  intro i j hi hj oZ e
  have:=Mx h (j-i-1) i (by omega) (by omega)
  rw[show(i:Int)+((j-i-1:Nat):Int)+1=j by omega,rC hi,rC hj,e]at this
  omega
 have hl:part.length≤l.length:=by
  have h1:(part.map Int.toNat).Nodup:=by
   refine dm.2 (List.Pairwise.imp_of_mem ?_ lz)
   intro a b ha hb e
   have:=hr a ha;have:=hr b hb
   omega
  have:=rR h1 (m:=List.range l.length) fun x hx=>by
   obtain⟨a,ha,rfl⟩:=ao.1 hx
   have:=hr a ha
   exact aY.2 (by omega)
  simpa using this
 have:=hc.len
 exact⟨hg,hc.ok,hc.len,by simp[eS],fun i i0 i1=>⟨(mB hc i0 i1).2,by rw[(mB hc i0 i1).1,List.length_map];have:=tN hg (hc.ok _ (eQ i0 i1));omega⟩,hr,lz,by omega,hn⟩
def O6(g:eH)(hg:fe g)(l:List Pos)(hc:jo g l)(v:List eO)(hv:v.length=l.length)(part:List Int)(zL:part.length<2 ^ 40)(n:Int)(KT:n<1∨¬ rm l.length part):Wf T 21 [dG g,e7 l,fh v,dI part,.i n] [] (Is (.agg [.eG,.i 0,.i 150])):=by
 refine Yg yO ?_
 simp[yO]
 refine Yc (f43 g hg l hc) ?_
 simp
 (with_reducible repeat' first|refine Xk ?_<;>try simp[hv]|refine Xs ?_ ?_<;>intro h<;>(try intro h')<;>(try simp[h,hv])<;>try omega|refine Xg ?_|omega)
 refine eN.e (0:Int) (fun y=>[(1,e7 l),(2,fh v),(3,dI part),(4,.i n),(5,.ptr 0 0 0),(10,.ptr 1 0 0),(11,.i y)]) (fun y=>[.row 41 0 g.cells,.row 64 0 [.eG,.i 0,.i 0]]) (fun y=>0≤y∧y≤part.length∧∀ k:Int,0≤k→k<y→mU part k<gt part k∧gt part k<l.length) (fun y=>(part.length-y).toNat) ?_ ?_
 ·exact⟨by simp,by simp,fun k k0 k1=>by omega⟩
 rintro i ⟨i0,i1,i2⟩
 dsimp only at i0 i1 i2 ⊢
 have Yp:(i=0∧mU part i = -1)∨(0<i∧mU part i=gt part (i-1)∧0≤gt part (i-1)):=by
  by_cases e:i=0
  ·exact .inl ⟨e,by rw[e,yi]⟩
  ·refine .inr ⟨by omega,by unfold mU;rw[if_neg e],?_⟩
   have hq:∀ d:Nat,(d:Int)<i→0≤gt part (d:Int):=by
    intro d
    induction d with
    | zero=>intro h;have:=(i2 0 (by omega) h).1;rw[yi]at this;simp at this ⊢;omega
    | succ d ih=>
     intro h
     have h1:=ih (by omega)
     have:=(i2 ((d+1:Nat):Int) (by omega) h).1
     rw[show((d+1:Nat):Int)=(d:Int)+1 by omega,Ag (by omega)]at this
     rw[show((d+1:Nat):Int)=(d:Int)+1 by omega]
     omega
   have:=hq (i-1).toNat (by omega)
   rwa [show(((i-1).toNat:Nat):Int)=i-1 by omega]at this
 by_cases hi:i<part.length
 ·have kI:mU part i<gt part i∧gt part i<l.length→∀ k:Int,0≤k→k<i+1→mU part k<gt part k∧gt part k<l.length:=fun h k k0 k1=>by
   by_cases e:k=i
   ·subst e;exact h
   ·exact i2 k k0 (by omega)
  simp[hi]
  (with_reducible repeat' first|refine Xk ?_<;>try simp|refine Xs ?_ ?_<;>intro h<;>(try intro h')<;>(try simp[h])<;>try omega|refine Xg ?_|omega)
  all_goals
   refine LJ.e (i+1) ?_
   exact eY (kI (by omega))
 ·have eM:rm l.length part:=fun k k0 k1=>i2 k k0 (by omega)
  have hn:n<1:=KT.resolve_right fun h=>h eM
  simp[hi]
  (with_reducible repeat' first|refine Xk ?_<;>try simp|refine Xs ?_ ?_<;>intro h<;>(try intro h')<;>(try simp[h])<;>try omega|refine Xg ?_|omega)
def VC(g:eH)(hg:fe g)(l:List Pos)(hc:jo g l)(v:List eO)(hv:v.length=l.length)(part:List Int)(hp:rm l.length part)(n:Int)(hn:1≤n∧n≤9223372036854775807):Wf T 21 [dG g,e7 l,fh v,dI part,.i n] [] (Is (.agg [fh (kG g l (eS g l) part n v (rep l.length)).2.1,.i (kG g l (eS g l) part n v (rep l.length)).1,.i 0])):=by
 have o:=Sc hg hc hp hn
 have JN:=f44 g hg l hc v hv part n o
 have gK:=o.pl
 generalize kG g l (eS g l) part n v (rep l.length)=R at *
 refine Yg yO ?_
 simp[yO]
 refine Yc (f43 g hg l hc) ?_
 simp
 (with_reducible repeat' first|refine Xk ?_<;>try simp[hv]|refine Xs ?_ ?_<;>intro h<;>(try intro h')<;>(try simp[h,hv])<;>try omega|refine Xg ?_|omega)
 refine eN.e (0:Int) (fun y=>[(1,e7 l),(2,fh v),(3,dI part),(4,.i n),(5,.ptr 0 0 0),(10,.ptr 1 0 0),(11,.i y)]) (fun y=>[.row 41 0 g.cells,.row 64 0 [.eG,.i 0,.i 0]]) (fun y=>0≤y∧y≤part.length∧∀ k:Int,0≤k→k<y→mU part k<gt part k∧gt part k<l.length) (fun y=>(part.length-y).toNat) ?_ ?_
 ·exact⟨by simp,by simp,fun k k0 k1=>by omega⟩
 rintro i ⟨i0,i1,i2⟩
 dsimp only at i0 i1 i2 ⊢
 have Yp:(i=0∧mU part i = -1)∨(0<i∧mU part i=gt part (i-1)∧0≤gt part (i-1)):=by
  by_cases e:i=0
  ·exact .inl ⟨e,by rw[e,yi]⟩
  ·refine .inr ⟨by omega,by unfold mU;rw[if_neg e],?_⟩
   have hq:∀ d:Nat,(d:Int)<i→0≤gt part (d:Int):=by
    intro d
    induction d with
    | zero=>intro h;have:=(i2 0 (by omega) h).1;rw[yi]at this;simp at this ⊢;omega
    | succ d ih=>
     intro h
     have h1:=ih (by omega)
     have:=(i2 ((d+1:Nat):Int) (by omega) h).1
     rw[show((d+1:Nat):Int)=(d:Int)+1 by omega,Ag (by omega)]at this
     rw[show((d+1:Nat):Int)=(d:Int)+1 by omega]
     omega
   have:=hq (i-1).toNat (by omega)
   rwa [show(((i-1).toNat:Nat):Int)=i-1 by omega]at this
 by_cases hi:i<part.length
 ·have kI:mU part i<gt part i∧gt part i<l.length→∀ k:Int,0≤k→k<i+1→mU part k<gt part k∧gt part k<l.length:=fun h k k0 k1=>by
   by_cases e:k=i
   ·subst e;exact h
   ·exact i2 k k0 (by omega)
  have tz:=hp i i0 hi
  simp[hi]
  (with_reducible repeat' first|refine Xk ?_<;>try simp|refine Xs ?_ ?_<;>intro h<;>(try intro h')<;>(try simp[h])<;>try omega|refine Xg ?_|omega)
  all_goals
   refine LJ.e (i+1) ?_
   exact eY (kI tz)
 ·simp[hi]
  (with_reducible repeat' first|refine Xk ?_<;>try simp|refine Xs ?_ ?_<;>intro h<;>(try intro h')<;>(try simp[h])<;>try omega|refine Xg ?_|omega)
  refine Yc (JN) ?_
  simp
def Vz(g:eH)(hg:fe g)(l:List Pos)(hc:jo g l)(h0:0<l.length)(m:List Int)(hm:kD g m)(n:Int)(hn:1≤n∧n≤9223372036854775807):Wf T 19 [dG g,.agg [dI m],e7 l,.i n] [] (Is (.agg [fh (qZ g l m n).2.1,.i (qZ g l m n).1,.i 0])):=by
 have h9:=hc.len
 refine Yz wH (gL 12 [4] wH.body) ?_
 simp[wH,gL,jg,lD,lH,lS,ku]
 refine Yc (f43 g hg l hc) ?_
 simp
 (with_reducible repeat' first|refine Xk ?_<;>try simp|refine Xs ?_ ?_<;>intro h<;>(try intro h')<;>(try simp[h])<;>try omega|refine Xg ?_|omega)
 refine Yc (f23 hg hm hc.ok hc.len) ?_
 simp
 (with_reducible repeat' first|refine Xk ?_<;>try simp|refine Xs ?_ ?_<;>intro h<;>(try intro h')<;>(try simp[h])<;>try omega|refine Xg ?_|omega)
 have hrp:∀ k:Int,0≤k→List.replicate (k+1).toNat ((2,0):eO)=List.replicate k.toNat (2,0) ++ [(2,0)]:=fun k k0=>by
  rw[show(k+1).toNat=k.toNat+1 by omega,List.replicate_succ']
 refine eN.e (0:Int) (fun y=>[(2,e7 l),(3,.i n),(4,.ptr 0 0 0),(8,.ptr 2 0 0),(9,.ptr 3 0 0),(10,.sl 1 ((mP m l).map fI)),(11,.i y)]) (fun y=>[.row 41 0 g.cells,.row 50 0 [dI m],.row 64 0 [.eG,.i 0,.i 0],.row 64 0 [if y=0 then .eG else .eF 4 (y.toNat-1) 2 0 y.toNat,.i 0,.i 0]]++(if y=0 then []else [.row 58 (y.toNat-1) (cl fS (List.replicate y.toNat (2,0)))])) (fun y=>0≤y∧y≤l.length) (fun y=>(l.length-y).toNat) ?_ ?_
 ·simp
 rintro i ⟨i0,i1⟩
 dsimp only at i0 i1 ⊢
 by_cases hi:i<l.length
 ·by_cases hz:i=0
  ·subst hz
   simp[hi]
   (with_reducible repeat' first|refine Xk ?_<;>try simp|refine Xs ?_ ?_<;>intro h<;>(try intro h')<;>(try simp[h])<;>try omega|refine Xg ?_|omega)
   refine LJ.i (0+1) (by first|rfl|simp[mY,uC]) (by first|rfl|simp[mY,uC]) rfl rfl ?_
   omega
  ·obtain⟨q,rfl⟩:∃ q:Nat,i=(q:Int)+1:=⟨(i-1).toNat,by omega⟩
   simp[hi,hz]
   (with_reducible repeat' first|refine Xk ?_<;>try simp|refine Xs ?_ ?_<;>intro h<;>(try intro h')<;>(try simp[h])<;>try omega|refine Xg ?_|omega)
   have uR:List.replicate (q+2) ((2,0):eO)=List.replicate (q+1) (2,0) ++ [(2,0)]:=List.replicate_succ'
   refine LJ.i ((q:Int)+1+1) (by first|rfl|simp[show ¬ ((q:Int)+1+1=0)by omega,show((q:Int)+1+1).toNat=q+2 by omega,uR]) (by first|rfl|simp[show ¬ ((q:Int)+1+1=0)by omega,show((q:Int)+1+1).toNat=q+2 by omega,uR]) rfl rfl ?_
   omega
 ·have kT:i=l.length:=by omega
  subst kT
  have hz:¬ l = []:=fun e=>by rw[e]at h0;simp at h0
  have fM:=OI m l
  have PN:=fun p hp=>J3 (m:=m) (l:=l) (p:=p) hp
  have K6:=fun p hp=>Kp hg hc (m:=m) hn (p:=p) hp
  have hcp:=fun p hp=>UW (m:=m) (l:=l) (p:=p) hp
  generalize hR:qZ g l m n=R
  unfold qZ at hR
  have qS:List.replicate l.length false=rep l.length:=rfl
  rw[qS]at hR
  have oK:(List.replicate l.length ((2,0):eO)).length=l.length:=by simp
  have Ck:((l.length:Nat):Int).toNat=l.length:=by omega
  rw[Ck]
  generalize List.replicate l.length ((2,0):eO)=V0 at *
  simp[hi,hz]
  (with_reducible repeat' first|refine Xk ?_<;>try simp|refine Xs ?_ ?_<;>intro h<;>(try intro h')<;>(try simp[h])<;>try omega|refine Xg ?_|omega)
  generalize mP m l=cut at *
  refine eN.s (by simp[hz,oK];rfl) ?_
  (try refine eN.K2 (by simp[hz,oK];rfl) ?_)
  refine eN.e ((0,V0,0):Int×List eO×Int) (fun y=>[(2,e7 l),(3,.i n),(4,.ptr 0 0 0),(8,.ptr 2 0 0),(9,.ptr 3 0 0),(10,.sl 1 (cut.map fI)),(12,.i y.1)]) (fun y=>[.row 41 0 g.cells,.row 50 0 [dI m],.row 64 0 [.eG,.i 0,.i 0],.row 64 0 [fh y.2.1,.i y.2.2,.i 0],.dead]) (fun y=>0≤y.1∧y.1≤cut.length∧y.2.1.length=l.length∧tM g l (eS g l) n (cut.drop y.1.toNat) y.2.1 (rep l.length) y.2.2=R∧(0≤y.2.2∧y.2.2≤y.1*20000000)) (fun y=>(cut.length-y.1).toNat) ?_ ?_
  ·exact⟨by simp,by simp,oK,hR,by simp⟩
  clear hR
  rintro⟨i,v,t⟩ ⟨i0,i1,hv,hR,ht⟩
  dsimp only at i0 i1 hv hR ht ⊢
  by_cases hi:i<cut.length
  ·have kz:=eQ i0 hi
   have ho:=K6 _ kz
   have JN:=f44 g hg l hc v hv (gt cut i) n ho
   have Xr:=Pc (g:=g) (l:=l) (nx:=eS g l) (bu:=n) ho.pl v (rep l.length)
   have vU:=(zk ho n hv (Dd _)).1.1
   have Xq:=V3 ho n hv
   rw[lQ i0 hi,tM,Xq]at hR
   generalize kG g l (eS g l) (gt cut i) n v (rep l.length)=r at *
   simp[hi]
   (with_reducible repeat' first|refine Xk ?_<;>try simp|refine Xs ?_ ?_<;>intro h<;>(try intro h')<;>(try simp[h])<;>try omega|refine Xg ?_|omega)
   refine Yt (JN) ?_
   simp
   (with_reducible repeat' first|refine Xk ?_<;>try simp|refine Xs ?_ ?_<;>intro h<;>(try intro h')<;>(try simp[h])<;>try omega|refine Xg ?_|omega)
   refine LJ.e (i+1,r.2.1,t+r.1) ?_
   refine eY ⟨vU,?_,by dsimp only;omega⟩
   dsimp only
   rw[show(i+1).toNat=i.toNat+1 by omega]
   exact hR
  ·have kT:i=cut.length:=by omega
   subst kT
   rw[aR (by simp),tM]at hR
   subst hR
   simp[hi]
set_option maxHeartbeats 4000000
def Ws{α:Type}[Inhabited α]{l:List α}{x:α}{n:Int}(h:n.toNat=l.length):gt (l ++ [x]) n=x:=by
 unfold gt
 rw[List.getD_eq_getElem?_getD,ak (by omega),h,Nat.sub_self]
 rfl
def VJ(g:eH)(hg:fe g)(l:List Pos)(hl:jo g l)(gw:0<l.length):Wf T 38 [dG g,e7 l,.sl 1 ((eS g l).map fI)] [] (Ey fh fun r=>r.length=l.length∧∀ k:Int,0≤k→k<l.length→nB (pn g l (eS g l)) r k):=by
 have hlen:=hl.len
 have tw:(eS g l).length=l.length:=by simp[eS]
 refine Yg FC ?_
 simp[FC]
 refine Yn (VR g hg l hl) ?_
 simp
 have P9:(l.map (qh g)).length=l.length:=by simp
 have eX:=KI.start hl
 generalize QM:l.map (qh g)=v0 at *
 refine eN.e ((1,true,l.length,v0):Int×Bool×Nat×List Kn) (fun y=>[(1,e7 l),(2,.sl 1 ((eS g l).map fI)),(7,.eF (if y.2.1 then 1 else 2) y.2.2.1 3 0 l.length),(8,.i y.1)]) (fun y=>.row 41 0 g.cells :: .row 134 l.length (cl fK v0)::(if y.2.1 then []else [.row 134 y.2.2.1 (cl fK y.2.2.2)])) (fun y=>1≤y.1∧y.1≤l.length+1∧KI g l y.1 y.2.2.2∧(y.2.1=true→y.2.2.1=l.length∧y.2.2.2=v0∧y.1=1)) (fun y=>l.length+1-y.1.toNat) ?_ ?_
 ·exact⟨by simp,by simp;omega,eX,fun _=>⟨rfl,rfl,rfl⟩⟩
 rintro⟨n,b,gn,v⟩ ⟨n0,n1,hK,n3⟩
 dsimp only at n0 n1 hK n3 ⊢
 have n2:=hK.len
 have Qv:∀ i:Int,0≤i→i<l.length→∀ k∈gt (eS g l) i,0≤k∧k<v.length:=fun i a c k hk=>by
  have:=(mB hl a c).2 k hk;omega
 have ie:∀ i:Int,0≤i→i<l.length→(gt (eS g l) i).length<2 ^ 40:=fun i a c=>by
  rw[(mB hl a c).1,List.length_map]
  have:=tN hg (hl.ok _ (eQ a c));omega
 have qO:∀ i:Int,0≤i→i<l.length→∀ k∈gt (eS g l) i,(gt v k).2.2=true→0≤(gt v k).2.1:=fun i a c k hk e=>hK.nn ((mB hl a c).2 k hk).1 ((mB hl a c).2 k hk).2 e
 have HU:∀ i:Int,0≤i→i<l.length→(gt v i).2.2=false→0<(gt (eS g l) i).length:=fun i a c e=>az.2 (hK.ne hl (by omega) a c e)
 cases b
 ·simp
  (with_reducible repeat' first|refine Xk ?_<;>try simp|refine Xs ?_ ?_<;>intro h<;>(try intro h')<;>(try simp[h])<;>try omega|refine Xg ?_|omega)
  ·refine eN.e ((0,v):Int×List Kn) (fun y=>[(1,e7 l),(2,.sl 1 ((eS g l).map fI)),(7,.eF 2 gn 3 0 l.length),(8,.i n),(9,.eF 3 1 3 0 l.length),(10,.i y.1)]) (fun y=>[.row 41 0 g.cells,.row 134 l.length (cl fK v0),.row 134 gn (cl fK v),.row 134 1 (cl fK y.2)]) (fun y=>0≤y.1∧y.1≤l.length∧y.2.length=l.length∧∀ k:Int,0≤k→k<l.length→gt y.2 k=if k<y.1∧(gt v k).2.2=false then n4 v (gt (eS g l) k) n else gt v k) (fun y=>l.length-y.1.toNat) ?_ ?_
   ·exact⟨by simp,by simp,n2,fun k k0 k1=>by rw[if_neg (by dsimp only;omega)]⟩
   rintro⟨j,now⟩ ⟨j0,j1,j2,j3⟩
   dsimp only at j0 j1 j2 j3 ⊢
   simp
   (with_reducible repeat' first|refine Xk ?_<;>try simp|refine Xs ?_ ?_<;>intro h<;>(try intro h')<;>(try simp[h])<;>try omega|refine Xg ?_|omega)
   ·refine LJ.e (j+1,now) ?_
    refine eY ⟨j2,fun k k0 k1=>?_⟩
    dsimp only
    rw[j3 k k0 k1]
    by_cases e:k=j
    ·subst e
     rw[if_neg (by omega),if_neg (by simp[*])]
    ·simp only[show k<j+1↔k<j by omega]
   ·refine fg.r rfl rfl (O' v _ n (by omega) (HU j j0 ‹_› ‹_›) (ie j j0 ‹_›) (Qv j j0 ‹_›) (qO j j0 ‹_›)) (by simp[n2]) (by simp[flat,oh]) (by simp) ?_
    simp
    (with_reducible repeat' first|refine Xk ?_<;>try simp|refine Xs ?_ ?_<;>intro h<;>(try intro h')<;>(try simp[h])<;>try omega|refine Xg ?_|omega)
    have sC:=GO (f:=fK) now j (by omega) (n4 v (gt (eS g l) j) n)
    rw[zj]at sC
    refine LJ.i (j+1,pt now j (n4 v (gt (eS g l) j) n)) (by first|rfl|simp[← sC]) (by first|rfl|simp[← sC]) rfl rfl ?_
    have hp:=gN (l:=now) (n:=j) (v:=n4 v (gt (eS g l) j) n) j0 (by omega)
    refine qx (fun k k0 k1=>?_)
    dsimp only
    rw[pz j0 (by omega) k0,j3 k k0 k1]
    by_cases e:k=j
    ·subst e
     rw[if_pos rfl,if_pos ⟨by omega,‹_›⟩]
    ·rw[if_neg e]
     simp only[show k<j+1↔k<j by omega]
   ·refine LJ.e (n+1,false,1,now) ?_
    refine eY ⟨?_,fun h=>by cases h⟩
    refine hK.step hg hl n0 j2 fun k k0 k1=>?_
    rw[j3 k k0 k1]
    simp only[show k<j by omega,true_and]
  ·have X9:n=l.length+1:=by omega
   subst X9
   refine eN.e ((0,v,[]):Int×List Kn×List eO) (fun y=>[(1,e7 l),(7,.eF 2 gn 3 0 l.length),(11,.eF 3 y.2.2.length 2 0 y.2.2.length),(12,.i y.1)]) (fun y=>[.row 41 0 g.cells,.row 134 l.length (cl fK v0),.row 134 gn (cl fK y.2.1),.row 58 y.2.2.length (cl fS y.2.2)]) (fun y=>0≤y.1∧y.1≤l.length∧y.2.1.length=l.length∧y.2.2.length=y.1.toNat∧(∀ k:Int,0≤k→k<y.1→gt y.2.2 k=if (gt v k).2.2=true then((gt v k).1,(gt v k).2.1)else(2,0))∧(∀ k:Int,y.1≤k→k<l.length→gt y.2.1 k=gt v k)) (fun y=>l.length-y.1.toNat) ?_ ?_
   ·exact⟨by simp,by simp,n2,by simp,fun k k0 k1=>by dsimp only at k1;omega,fun k k0 k1=>rfl⟩
   rintro⟨j,w,out⟩ ⟨j0,j1,j2,j3,j4,j5⟩
   dsimp only at j0 j1 j2 j3 j4 j5 ⊢
   by_cases hj:j<l.length
   ·have sC:=Up (l:=w) (n:=j) (by omega) 2 0
    have gK:∀ v,(pt w j v).length=w.length:=fun v=>gN j0 (by omega)
    have qQ:∀ v,gt (pt w j v) j=v:=fun v=>xv j0 (by omega)
    have QP:=j5 j (by omega) hj
    have pV:∀ (x:eO),((gt v j).2.2=true→x=((gt v j).1,(gt v j).2.1))→((gt v j).2.2=false→x=(2,0))→∀ k:Int,0≤k→k<j+1→gt (out ++ [x]) k=if (gt v k).2.2=true then((gt v k).1,(gt v k).2.1)else(2,0):=fun x x1 x2 k k0 k1=>by
     by_cases e:k=j
     ·subst e
      rw[Ws (by omega)]
      by_cases e2:(gt v k).2.2=true
      ·rw[if_pos e2];exact x1 e2
      ·rw[if_neg e2];exact x2 (by simpa using e2)
     ·rw[PD (by omega)];exact j4 k k0 (by omega)
    simp[hj,sC]
    (with_reducible repeat' first|refine Xk ?_<;>try simp[sC,gK,qQ]|refine Xs ?_ ?_<;>intro h<;>(try intro h')<;>(try simp[h,sC,gK,qQ])<;>try omega|refine Xg ?_|omega)
    ·refine LJ.e (j+1,w,out ++ [((gt w j).1,(gt w j).2.1)]) ?_
     rw[QP]at *
     refine⟨by dsimp only;omega,by dsimp only;omega,by dsimp only;omega,by dsimp only;omega,by simp;omega,pV _ (fun _=>rfl) (fun e=>by simp[*]at e),fun k k0 k1=>j5 k (by dsimp only at k0;omega) k1⟩
    ·refine LJ.e (j+1,pt w j (2,0,false),out ++ [(2,0)]) ?_
     rw[QP]at *
     refine⟨by dsimp only;omega,by dsimp only;omega,by dsimp only;omega,by dsimp only;rw[gK];omega,by simp;omega,pV _ (fun e=>by simp[*]at e) (fun _=>rfl),fun k k0 k1=>?_⟩
     dsimp only at k0 ⊢
     rw[pz j0,if_neg (by omega)]
     exact j5 k (by omega) k1
   ·simp[hj]
    exact Ey.i out rfl rfl ⟨by omega,hK.done hg hl (by omega) fun k k0 k1=>j4 k k0 (by omega)⟩
 ·obtain⟨rfl,rfl,rfl⟩:=n3 rfl
  simp
  (with_reducible repeat' first|refine Xk ?_<;>try simp|refine Xs ?_ ?_<;>intro h<;>(try intro h')<;>(try simp[h])<;>try omega|refine Xg ?_|omega)
  ·refine eN.e ((0,v):Int×List Kn) (fun y=>[(1,e7 l),(2,.sl 1 ((eS g l).map fI)),(7,.eF 1 l.length 3 0 l.length),(8,.i 1),(9,.eF 2 1 3 0 l.length),(10,.i y.1)]) (fun y=>[.row 41 0 g.cells,.row 134 l.length (cl fK v),.row 134 1 (cl fK y.2)]) (fun y=>0≤y.1∧y.1≤l.length∧y.2.length=l.length∧∀ k:Int,0≤k→k<l.length→gt y.2 k=if k<y.1∧(gt v k).2.2=false then n4 v (gt (eS g l) k) 1 else gt v k) (fun y=>l.length-y.1.toNat) ?_ ?_
   ·exact⟨by simp,by simp,n2,fun k k0 k1=>by rw[if_neg (by dsimp only;omega)]⟩
   rintro⟨j,now⟩ ⟨j0,j1,j2,j3⟩
   dsimp only at j0 j1 j2 j3 ⊢
   simp
   (with_reducible repeat' first|refine Xk ?_<;>try simp|refine Xs ?_ ?_<;>intro h<;>(try intro h')<;>(try simp[h])<;>try omega|refine Xg ?_|omega)
   ·refine LJ.e (j+1,now) ?_
    refine eY ⟨j2,fun k k0 k1=>?_⟩
    dsimp only
    rw[j3 k k0 k1]
    by_cases e:k=j
    ·subst e
     rw[if_neg (by omega),if_neg (by simp[*])]
    ·simp only[show k<j+1↔k<j by omega]
   ·refine fg.r rfl rfl (O' v _ 1 (by omega) (HU j j0 ‹_› ‹_›) (ie j j0 ‹_›) (Qv j j0 ‹_›) (qO j j0 ‹_›)) (by simp[n2]) (by simp[flat,oh]) (by simp) ?_
    simp
    (with_reducible repeat' first|refine Xk ?_<;>try simp|refine Xs ?_ ?_<;>intro h<;>(try intro h')<;>(try simp[h])<;>try omega|refine Xg ?_|omega)
    have sC:=GO (f:=fK) now j (by omega) (n4 v (gt (eS g l) j) 1)
    rw[zj]at sC
    refine LJ.i (j+1,pt now j (n4 v (gt (eS g l) j) 1)) (by first|rfl|simp[← sC]) (by first|rfl|simp[← sC]) rfl rfl ?_
    have hp:=gN (l:=now) (n:=j) (v:=n4 v (gt (eS g l) j) 1) j0 (by omega)
    refine qx (fun k k0 k1=>?_)
    dsimp only
    rw[pz j0 (by omega) k0,j3 k k0 k1]
    by_cases e:k=j
    ·subst e
     rw[if_pos rfl,if_pos ⟨by omega,‹_›⟩]
    ·rw[if_neg e]
     simp only[show k<j+1↔k<j by omega]
   ·refine LJ.e (1+1,false,1,now) ?_
    refine eY ⟨?_,fun h=>by cases h⟩
    refine hK.step hg hl (by omega) j2 fun k k0 k1=>?_
    rw[j3 k k0 k1]
    simp only[show k<j by omega,true_and]
def Vu(g:eH)(hg:fe g)(l:List Pos)(hl:jo g l)(gw:0<l.length):Wf T 14 [dG g,e7 l] [] (Ey (fun x:List eO×List Int=>.agg [fh x.1,dI x.2,.i 0]) fun x=>x.1.length=l.length∧∀ k:Int,0≤k→k<l.length→nB (pn g l (eS g l)) x.1 k):=by
 refine Yg Ed ?_
 simp[Ed]
 refine Yc (f37 g hg l hl) ?_
 simp
 refine Yq (VJ g hg l hl gw) fun v hv=>?_
 simp
 refine Yq (f39 g hg l hl v hv.1) fun f hf=>?_
 simp
 exact Ey.i (v,f) rfl rfl hv
set_option maxHeartbeats 16000000
def Vv(g:eH)(hg:fe g)(l:List Pos)(hc:jo g l)(h0:0<l.length)(m:List Int)(hm:yZ g m)(v:List eO)(gV:v.length=l.length)(hV:∀ k:Int,0≤k→k<l.length→nB (pn g l (eS g l)) v k):Wf T 15 [dG g,.agg [dI m],e7 l,fh v] [] (Is (.agg [dI (zR g l m v),.i 0])):=by
 refine Yg Eo ?_
 simp[Eo]
 refine Yc (VK g hg l hc h0 m hm v gV hV) ?_
 simp
set_option maxHeartbeats 8000000
def O5(v:List eO)(a b:Int)(h9:v.length≤4000:=by omega):Wf T 17 [.agg [fh v,.i a,.i b],.agg [fh v,.i a,.i b]] [] (Is (.b true)):=by
 refine Yg yK ?_
 simp[yK]
 (with_reducible repeat' first|refine Xk ?_<;>try simp|refine Xs ?_ ?_<;>intro h<;>(try intro h')<;>(try simp[h])<;>try omega|refine Xg ?_|omega)
 refine Yc (VE v h9) ?_
 simp
 (with_reducible repeat' first|refine Xk ?_<;>try simp|refine Xs ?_ ?_<;>intro h<;>(try intro h')<;>(try simp[h])<;>try omega|refine Xg ?_|omega)
set_option maxHeartbeats 16000000
def gQ.s2{T:gy}{f:FuncId}{args:List D}{R:List Fp}{dst:Option Nat}{s s':St}{Q:Rc→St→Prop}(hs:s=s')(h:gQ T f args R dst s' Q .mk):gQ T f args R dst s Q .mk:=by subst hs;exact h
def f3(x:ph)(hx:DL x)(a0 a1 a2 a3 a4 a5:Int)(ha:∀ n∈[a0,a1,a2,a3,a4,a5],0≤n∧n<256)(part:List Int):Wf T 3 [.agg x.cells,dW [a0,a1,a2,a3,a4,a5],dI part] [] (Is (.b true)):=by
 have oK:x.cells.length=31:=by simp[ph.cells,Raw.cells,hx.len]
 have YY:fu x.cells=true:=by have:=Ow x;simpa using this
 have T':=f12 x hx
 generalize x.cells=xs at *
 have qt:xs.take 31=xs:=aC (by omega)
 refine Yz F3 (gL 65 [1012] F3.body) ?_
 simp[F3,gL,jg,lD,lH,lS,ku,dW,oK,qt]
 refine Yc (f11) ?_
 simp
 (with_reducible repeat' first|refine Xk ?_<;>try simp[oK,qt]|refine Xs ?_ ?_<;>intro h<;>(try intro h')<;>(try simp[h,oK,qt])<;>try omega|refine Xg ?_|omega)
 simp[oK,qt]
 refine fg.q rfl rfl T' (by simp[YY]) (fun y=>by obtain⟨g,p,b,l⟩:=y;cases b<;>simp[fu]) ?_
 rintro⟨g,p,b,l⟩ ⟨hg,hp,fM⟩
 cases b
 ·simp
 dsimp only at hg hp fM
 have BR:=fM rfl
 have hc:=BR.c2
 have h0:=BR.len.1
 have h80:=BR.len.2
 have N':=Vt g hg a0 a1 a2 a3 a4 a5 ha
 simp only[dW,List.map]at N'
 have w3:=Ng (ha a3 (by simp))
 have w4:=Ng (ha a4 (by simp))
 have w5:=Ng (ha a5 (by simp))
 have b3:=ha a3 (by simp)
 have b4:=ha a4 (by simp)
 have b5:=ha a5 (by simp)
 simp
 (with_reducible repeat' first|refine Xk ?_<;>try simp|refine Xs ?_ ?_<;>intro h<;>(try intro h')<;>(try simp[h])<;>try omega|refine Xg ?_|omega)
 refine Yv (N') fun m hm=>?_
 simp
 (with_reducible repeat' first|refine Xk ?_<;>try simp[w3]|refine Xs ?_ ?_<;>intro h<;>(try intro h')<;>(try simp[h,w3])<;>try omega|refine Xg ?_|omega)
 refine Yq (Vu g hg l hc h0) fun v hv=>?_
 obtain⟨v,f⟩:=v
 obtain⟨gV,hV⟩:=hv
 dsimp only at gV hV
 have r4:=kC (a:=a4) (b:=v.length) b4.1
 have r4a:=bW a4 (show((v.length:Nat):Int)≠0 by omega)
 have r4b:=bU a4 (show(0:Int)<v.length by omega)
 have r5:=kC (a:=a5) (b:=3) b5.1
 have Ib:¬ v = []:=fun e=>by rw[e]at gV;simp at gV;omega
 simp[w3,w4,w5]
 (with_reducible repeat' first|refine Xk ?_<;>try simp[w3,w4,w5,nJ]|refine Xs ?_ ?_<;>intro h<;>(try intro h')<;>(try simp[h,w3,w4,w5,nJ])<;>try omega|refine Xg ?_|omega)
 have zJ:=gN (l:=v) (n:=eZ a4 v.length) (v:=((1+eZ a5 3,eZ (tR a5 4) 5):eO)) (by omega) (by omega)
 refine gQ.s2 (by simp[zJ,nJ];rfl) ?_
 generalize pt v (eZ a4 v.length) ((1+eZ a5 3,eZ (tR a5 4) 5):eO)=od at *
 refine Yt (Vv g hg l hc h0 m hm v gV hV) ?_
 simp
 (with_reducible repeat' first|refine Xk ?_<;>try simp|refine Xs ?_ ?_<;>intro h<;>(try intro h')<;>(try simp[h])<;>try omega|refine Xg ?_|omega)
 refine Yt (f16 g hg l hc m hm v gV hV) ?_
 simp
 (with_reducible repeat' first|refine Xk ?_<;>try simp|refine Xs ?_ ?_<;>intro h<;>(try intro h')<;>(try simp[h])<;>try omega|refine Xg ?_|omega)
 have hz:=TA (m:=m) hc hV
 generalize zR g l m v=z at *
 have uU:z.length=l.length:=hz.len
 have xR:od.length=l.length:=zJ.trans gV
 have JM:=f22 z z (by omega)
 rw[w3]
 have al3 : -1≤a3-1∧a3-1≤254:=by omega
 generalize a3-1=bu at *
 have zL:part.length<2 ^ 40:=by omega
 by_cases tu:bu<1
 ·refine Yt (f18 g m l bu 150 (VL g hg l hc h0 m bu tu)) ?_
  simp
  (with_reducible repeat' first|refine Xk ?_<;>try simp|refine Xs ?_ ?_<;>intro h<;>(try intro h')<;>(try simp[h])<;>try omega|refine Xg ?_|omega)
  refine Yt (Vy g hg l hc m bu tu) ?_
  simp
  (with_reducible repeat' first|refine Xk ?_<;>try simp|refine Xs ?_ ?_<;>intro h<;>(try intro h')<;>(try simp[h])<;>try omega|refine Xg ?_|omega)
  refine Yt (Kf 0 150 0 150) ?_
  simp
  (with_reducible repeat' first|refine Xk ?_<;>try simp|refine Xs ?_ ?_<;>intro h<;>(try intro h')<;>(try simp[h])<;>try omega|refine Xg ?_|omega)
  refine Yt (f20 g l od (dI part) (by simp) bu 150 (O7 g hg l hc h0 od xR part zL bu (.inl tu))) ?_
  simp
  (with_reducible repeat' first|refine Xk ?_<;>try simp|refine Xs ?_ ?_<;>intro h<;>(try intro h')<;>(try simp[h])<;>try omega|refine Xg ?_|omega)
  refine Yt (O6 g hg l hc od xR part zL bu (.inl tu)) ?_
  simp
  (with_reducible repeat' first|refine Xk ?_<;>try simp|refine Xs ?_ ?_<;>intro h<;>(try intro h')<;>(try simp[h])<;>try omega|refine Xg ?_|omega)
  refine Yt (Kf 0 150 0 150) ?_
  simp
  (with_reducible repeat' first|refine Xk ?_<;>try simp|refine Xs ?_ ?_<;>intro h<;>(try intro h')<;>(try simp[h])<;>try omega|refine Xg ?_|omega)
  refine Yt (JM) ?_
  simp
  (with_reducible repeat' first|refine Xk ?_<;>try simp|refine Xs ?_ ?_<;>intro h<;>(try intro h')<;>(try simp[h])<;>try omega|refine Xg ?_|omega)
 ·have mg:1≤bu∧bu≤9223372036854775807:=by omega
  have hVl:=(aaC hg hc (m:=m) (n:=bu) mg).1
  refine Yt (Vx g hg l hc h0 m hm.ok bu mg) ?_
  simp
  (with_reducible repeat' first|refine Xk ?_<;>try simp|refine Xs ?_ ?_<;>intro h<;>(try intro h')<;>(try simp[h])<;>try omega|refine Xg ?_|omega)
  refine Yt (Vz g hg l hc h0 m hm.ok bu mg) ?_
  simp
  (with_reducible repeat' first|refine Xk ?_<;>try simp|refine Xs ?_ ?_<;>intro h<;>(try intro h')<;>(try simp[h])<;>try omega|refine Xg ?_|omega)
  have Ub:=O5 (qZ g l m bu).2.1 (qZ g l m bu).1 0
  refine Yt (Ub) ?_
  simp
  (with_reducible repeat' first|refine Xk ?_<;>try simp|refine Xs ?_ ?_<;>intro h<;>(try intro h')<;>(try simp[h])<;>try omega|refine Xg ?_|omega)
  by_cases eM:rm l.length part
  ·have o:=Sc hg hc eM mg
   have qo:=(zk o bu xR (Dd _)).1.1
   refine Yt (VA g hg l hc h0 od xR part eM bu o) ?_
   simp
   (with_reducible repeat' first|refine Xk ?_<;>try simp|refine Xs ?_ ?_<;>intro h<;>(try intro h')<;>(try simp[h])<;>try omega|refine Xg ?_|omega)
   refine Yt (VC g hg l hc od xR part eM bu mg) ?_
   simp
   (with_reducible repeat' first|refine Xk ?_<;>try simp|refine Xs ?_ ?_<;>intro h<;>(try intro h')<;>(try simp[h])<;>try omega|refine Xg ?_|omega)
   have Uc:=O5 (kG g l (eS g l) part bu od (rep l.length)).2.1 (kG g l (eS g l) part bu od (rep l.length)).1 0
   refine Yt (Uc) ?_
   simp
   (with_reducible repeat' first|refine Xk ?_<;>try simp|refine Xs ?_ ?_<;>intro h<;>(try intro h')<;>(try simp[h])<;>try omega|refine Xg ?_|omega)
   refine Yt (JM) ?_
   simp
   (with_reducible repeat' first|refine Xk ?_<;>try simp|refine Xs ?_ ?_<;>intro h<;>(try intro h')<;>(try simp[h])<;>try omega|refine Xg ?_|omega)
  ·refine Yt (f20 g l od (dI part) (by simp) bu 150 (O7 g hg l hc h0 od xR part zL bu (.inr eM))) ?_
   simp
   (with_reducible repeat' first|refine Xk ?_<;>try simp|refine Xs ?_ ?_<;>intro h<;>(try intro h')<;>(try simp[h])<;>try omega|refine Xg ?_|omega)
   refine Yt (O6 g hg l hc od xR part zL bu (.inr eM)) ?_
   simp
   (with_reducible repeat' first|refine Xk ?_<;>try simp|refine Xs ?_ ?_<;>intro h<;>(try intro h')<;>(try simp[h])<;>try omega|refine Xg ?_|omega)
   refine Yt (Kf 0 150 0 150) ?_
   simp
   (with_reducible repeat' first|refine Xk ?_<;>try simp|refine Xs ?_ ?_<;>intro h<;>(try intro h')<;>(try simp[h])<;>try omega|refine Xg ?_|omega)
   refine Yt (JM) ?_
   simp
   (with_reducible repeat' first|refine Xk ?_<;>try simp|refine Xs ?_ ?_<;>intro h<;>(try intro h')<;>(try simp[h])<;>try omega|refine Xg ?_|omega)
