/- Part 44 of DisputeLocal. -/
import Derived.Test.YtmehofoficaelaaGreatDoorL43
set_option linter.all false
namespace Go.Proofs.YtmehofoficaelaaGreatDoor
open Go Go.AL Classical
set_option maxRecDepth 10000
set_option maxHeartbeats 4000000
@[simp] theorem ajV(t:TypeId)(l:List Int)(n:Nat):qq t (dU l) n=some (.ptr n 0 0,.new (.row t 0 [dU l])):=rfl
@[simp] theorem aqk(f:gd)(l:List Int)(lo:Option X)(hi mx:X):yC f 1 (dU l) lo hi mx=(gy f lo 0).bind fun a=>(uD (ev f hi)).bind fun h=>(uD (ev f mx)).bind fun m=>if 0≤a∧a≤h∧h=m∧m≤l.length then some (cB ((l.drop a.toNat).take (h.toNat-a.toNat)))else none:=by
 unfold dU;rw[agc,List.length_map];simp only[IV,UT]
def fG.n{T:gP}{f:FuncId}{args:List D}{dst:Option Nat}{s s':St}{K:St→Prop}(hs:s=s')(h:fG T f args dst s' K .mk):fG T f args dst s K .mk:=by subst hs;exact h
def V3(b:List Int):Wf T 221 [dU b] [] (Is (cB b)):=by
 refine Yg D' ?_
 simp[D']
def V4(b:List Int):Wf T 222 [dU b,.i 64] [] (Is (.fn (.func 274) [] [.fj [dU b],.fj [.i 64]])):=by
 refine Yg Ea ?_
 simp[Ea]
def Wa(P S:List Int)(hl:P.length % 64=0)(h9:P.length≤4000001000)(hS:S.length=8):Wf T 274 [.iA 5,.fj [dU P],.fj [.i 64]]
  [.row 70 0 (cl fU (zs 32)),.row 5 0 [.val (.int .u8 128)],.dead,.row 323 0 (cl fW S),.kJ,.gL 9920 [(5,.ptr 3 0 0)] .ready]
  (fun _ H'=>H' = [.row 70 0 (cl fU (zs 32)),.row 5 0 [.val (.int .u8 128)],.dead,.row 323 0 (cl fW (pY P S (P.length / 64))),.kJ,.gL 9920 [(5,.ptr 3 0 0)] .ready]):=by
 refine Yg Eh ?_
 simp[Eh]
 refine fh.e ((0,S):Int×List Int) (fun y=>[(0,.iA 5),(1,.fj [dU P]),(2,.fj [.i 64]),(4,.i y.1)]) (fun y=>[.row 70 0 (cl fU (zs 32)),.row 5 0 [.val (.int .u8 128)],.dead,.row 323 0 (cl fW y.2),.kJ,.gL 9920 [(5,.ptr 3 0 0)] .ready]) (fun y=>∃ n:Nat,y.1=64*n∧y.1≤P.length∧y.2=pY P S n) (fun y=>(P.length+64-y.1).toNat) ?_ ?_
 ·exact⟨0,by simp,by simp,by simp[Js]⟩
 rintro⟨i,s⟩ ⟨n,fM,i1,hs⟩
 dsimp only at fM i1 hs ⊢
 have qf:s.length=8:=by rw[hs];exact Gm P hS n
 by_cases hi:i<P.length
 ·have qh:s.take 8=s:=ai (by omega)
  have pg:s.drop 8 = []:=bL (by omega)
  have lR:((P.drop i.toNat).take 64).length=64:=by rw[aI,aX];omega
  have e:=Jt P S n
  rw[← hs,show 64*n=i.toNat by omega]at e
  have e6:(i+64).toNat-i.toNat=64:=by omega
  have em:min 64 ((P.length-i.toNat:Nat):Int)=64:=by omega
  obtain⟨B,hB⟩:∃ B,(P.drop i.toNat).take 64=B:=⟨_,rfl⟩
  rw[hB]at lR e
  have c:=V5 s B qf lR
  have gu:=Jn (s:=s) (b:=B) qf
  obtain⟨A,hA⟩:∃ A,qY s B=A:=⟨_,rfl⟩
  rw[hA]at c e gu
  simp[hi,em]
  (with_reducible repeat' first|refine Xk ?_<;>try simp[em]|refine Xs ?_ ?_<;>intro h<;>(try intro h')<;>(try simp[h,em])<;>try omega|refine Xg ?_|omega)
  simp only[em,e6,hB]
  refine pU.r (rf:=9920) (env0:=[(5,.ptr 3 0 0)]) (Rd:=yZ) (by simp) rfl rfl yZ.a yZ.b (nY rfl) (nY rfl) ?_
  simp[yZ,qf,qh]
  refine Yc (c) ?_
  simp[gu,qf,qh,pg]
  (with_reducible repeat' first|refine Xk ?_<;>try simp|refine Xs ?_ ?_<;>intro h<;>(try intro h')<;>(try simp[h])<;>try omega|refine Xg ?_|omega)
  refine LJ.e (i+64,A) ?_
  exact⟨by omega,n+1,by omega,by omega,e.symm⟩
 ·have jB:n=P.length / 64:=by omega
  subst jB
  simp[hi,hs]
def Py(b:List Int)(h9:b.length≤4000000000):Wf T 155 [dU b] [] (Is (.agg (cl fU (l3 b)))):=by
 have c1:=V3 b
 obtain⟨B,hB⟩:∃ B,Ba (8*b.length)=B:=⟨_,rfl⟩
 have W9:B.length=8:=by rw[← hB];rfl
 have Kr:∀ i:Int,0≤i→i<8→gt B i=IntKind.u8.wrap (mA .u64 (8*b.length) (56-8*i)):=fun i i0 i1=>by rw[← hB];exact Oz _ i0 i1
 obtain⟨p,hp⟩:∃ p,Iy b.length=p:=⟨_,rfl⟩
 have iP:p=63-(b.length+8) % 64:=by rw[← hp];rfl
 have hP:pad b=b++128::zs p++B:=by rw[pad,hB,hp,tI];simp
 obtain⟨C,hC⟩:∃ C,b++128::zs p=C:=⟨_,rfl⟩
 rw[hC]at hP
 have hCl:C.length=b.length+1+p:=by rw[← hC];simp;omega
 obtain⟨r,hr⟩:∃ r,l3 b=r:=⟨_,rfl⟩
 obtain⟨S,hS⟩:∃ S,BH=S:=⟨_,rfl⟩
 have xu:S.length=8:=by rw[← hS];rfl
 have mS:yj (pY (C++B) S ((C++B).length / 64))=r:=by rw[← hr,l3,hP,hS]
 rw[hr]
 clear hP hB hp hr
 have qh:S.take 8=S:=ai (by omega)
 have hw:IntKind.u64.wrap (b.length:Int)=b.length:=wrap_u64 (by omega) (by omega)
 have nh:IntKind.u64.wrap (8*(b.length:Int))=8*b.length:=wrap_u64 (by omega) (by omega)
 refine Yz AJ (iu 36 [2] AJ.body) ?_
 simp[AJ,iu,jJ,mj,mn,mG,ln,Un,hS]
 refine Yc (c1) ?_
 simp
 (with_reducible repeat' first|refine Xk ?_<;>try simp|refine Xs ?_ ?_<;>intro h<;>(try intro h')<;>(try simp[h])<;>try omega|refine Xg ?_|omega)
 refine fh.e ((0,b ++ [128]):Nat×List Int) (fun y=>[(0,dU b),(2,.ptr 0 0 0),(3,.eX 2 y.1 1 0 y.2.length)]) (fun y=>[.row 70 0 (cl fU (zs 32)),.row 5 0 [.val (.int .u8 128)],.row 5 y.1 (cl fU y.2)]) (fun y=>∃ k:Nat,k≤p∧y.2=b++128::zs k) (fun y=>b.length+1+p-y.2.length) ?_ ?_
 ·exact⟨0,by omega,by simp⟩
 rintro⟨g,q⟩ ⟨k,k0,ho⟩
 dsimp only at k0 ho ⊢
 have La:q.length=b.length+1+k:=by rw[ho];simp;omega
 have hq:fq ((q.length:Int)+8) 64=((q.length:Int)+8) % 64:=jT (by omega)
 by_cases hk:k<p
 ·have h1:¬ ((q.length:Int)+8) % 64=0:=by omega
  have hn:q ++ [0]=b++128::zs (k+1):=by rw[ho,← T1];simp
  simp[hq,h1]
  (with_reducible repeat' first|refine Xk ?_<;>try simp[hq]|refine Xs ?_ ?_<;>intro h<;>(try intro h')<;>(try simp[h,hq])<;>try omega|refine Xg ?_|omega)
  refine LJ.e (g+1,q ++ [0]) ?_
  exact⟨by simp;omega,k+1,hk,hn⟩
 ·have ri:k=p:=by omega
  subst ri
  have h1:((q.length:Int)+8) % 64=0:=by omega
  rw[hC]at ho
  subst ho
  simp[hq,h1,hw,nh]
  (with_reducible repeat' first|refine Xk ?_<;>try simp[hw,nh]|refine Xs ?_ ?_<;>intro h<;>(try intro h')<;>(try simp[h,hw,nh])<;>try omega|refine Xg ?_|omega)
  refine fh.st (by simp;rfl) ?_
  refine fh.e ((0,g,q):Int×Nat×List Int) (fun y=>[(0,dU b),(2,.ptr 0 0 0),(3,.eX 2 y.2.1 1 0 y.2.2.length),(4,.i (56-8*y.1))]) (fun y=>[.row 70 0 (cl fU (zs 32)),.row 5 0 [.val (.int .u8 128)],.row 5 y.2.1 (cl fU y.2.2)]) (fun y=>(0≤y.1∧y.1≤8)∧y.2.2=q++B.take y.1.toNat) (fun y=>(8-y.1).toNat) ?_ ?_
  ·simp
  rintro⟨i,g1,u⟩ ⟨⟨i0,i1⟩,hu⟩
  dsimp only at i0 i1 hu ⊢
  have pn:u.length=q.length+i.toNat:=by rw[hu];simp;omega
  by_cases hi:i<8
  ·have e:=Tz (l:=B) i0 (by omega)
   rw[Kr i i0 hi]at e
   have jP:0≤56-8*i:=by omega
   simp[jP,nh,hw]
   (with_reducible repeat' first|refine Xk ?_<;>try simp[nh,hw]|refine Xs ?_ ?_<;>intro h<;>(try intro h')<;>(try simp[h,nh,hw])<;>try omega|refine Xg ?_|omega)
   refine LJ.i (i+1,g1+1,u ++ [IntKind.u8.wrap (mA .u64 (8*b.length) (56-8*i))]) (by first|rfl|simp[show 56-8*(i+1)=56-8*i-8 by omega]) (by first|rfl|simp[show 56-8*(i+1)=56-8*i-8 by omega]) rfl rfl ?_
   exact⟨by omega,jG,by rw[e,hu,aZ]⟩
  ·have jB:i=8:=by omega
   subst jB
   obtain⟨P,hP⟩:∃ P,q++B=P:=⟨_,rfl⟩
   have hPl:P.length=q.length+8:=by rw[← hP];simp;omega
   have e:u=P:=by rw[hu,ai (by omega),hP]
   rw[hP]at mS
   clear pn hu hP
   subst e
   simp
   (with_reducible repeat' first|refine Xk ?_<;>try simp|refine Xs ?_ ?_<;>intro h<;>(try intro h')<;>(try simp[h])<;>try omega|refine Xg ?_|omega)
   refine fG.n (by simp[xu,qh];rfl) ?_
   rw[← w8]
   refine Yc (V4 u) ?_
   simp
   refine wV.r (f:=274) (first:=[]) (cap:=[.fj [dU u],.fj [.i 64]]) rfl rfl rfl rfl ?_
   simp
   refine Wf.mono (Wa u S (by omega) (by omega) xu) ?_
   rintro _ H' rfl
   have iV:=Gm u xu (u.length / 64)
   obtain⟨v,hv⟩:∃ v,pY u S (u.length / 64)=v:=⟨_,rfl⟩
   rw[hv]at mS iV ⊢
   clear hv
   have iy:r.length=32:=by rw[← mS];exact Iw v
   have Cc:∀ j:Int,0≤j→j<32→gt r j=IntKind.u8.wrap (mA .u32 (gt v (j / 4)) (24-8*(j % 4))):=fun j j0 j1=>by rw[← mS];exact Sw v j0 j1
   clear mS
   refine⟨[(5,.ptr 3 0 0)],.ready,by simp,?_⟩
   simp
   refine fh.st (by simp;rfl) ?_
   refine fh.kg [4] false ((0,zs 32):Int×List Int) (fun y=>[(2,.ptr 0 0 0),(5,.ptr 3 0 0),(7,.ptr 5 0 0),(42,.i y.1)]) (fun y=>[.row 70 0 (cl fU (zs 32)),.row 5 0 [.val (.int .u8 128)],.dead,.row 323 0 (cl fW v),.kJ,.row 70 0 (cl fU y.2)]) (fun y=>(0≤y.1∧y.1≤32)∧y.2.length=32∧∀ j:Int,0≤j→j<y.1→gt y.2 j=gt r j) (fun y=>(32-y.1).toNat) ?_ (by simp) (by first|rfl|(simp[jg];done)|(simp[*];done)) rfl rfl rfl ?_
   ·exact⟨by simp,by simp,fun j j0 j1=>absurd j1 (by dsimp only;omega)⟩
   rintro⟨i,u⟩ ⟨⟨i0,i1⟩,pn,hu⟩
   dsimp only at i0 i1 pn hu ⊢
   by_cases hi:i<32
   ·have hq:uN i 4=i / 4:=uO i0 (by omega) (by omega)
    have hm:fq i 4=i % 4:=jT i0
    simp[hi,hq,hm]
    (with_reducible repeat' first|refine Xk ?_<;>try simp[hq,hm]|refine Xs ?_ ?_<;>intro h<;>(try intro h')<;>(try simp[h,hq,hm])<;>try omega|refine Xg ?_|omega)
    refine LJ.i (i+1,pt u i (gt r i)) (by first|rfl|simp[Cc i i0 hi]) (by first|rfl|simp[Cc i i0 hi]) rfl rfl ?_
    refine⟨by omega,jG,by rw[il i0 (by omega)];exact pn,fun j j0 j1=>?_⟩
    dsimp only at j1 ⊢
    rw[qv i0 (by omega) j0]
    by_cases e:j=i
    ·rw[if_pos e,e]
    ·rw[if_neg e];exact hu j j0 (by omega)
   ·have jB:i=32:=by omega
    subst jB
    have e:u=r:=by
     refine ct (by omega) fun j j0 j1=>?_
     have h:=hu j (by omega) (by omega)
     rw[kl (by omega) (by omega),kl (by omega) (by omega)]at h
     exact h
    subst e
    have he:u.take 32=u:=ai (by omega)
    simp[pn,he]
@[irreducible] def fB(l:List Int):List D:=[dU l]
@[simp] theorem By(l:List Int):fB l = [dU l]:=by unfold fB;rfl
instance:Fl fB 1:=⟨fun _=>by simp,fun _=>by simp[fE]⟩
@[irreducible] def oa(L:List (List Int)):D:=.sl 1 (L.map fB)
theorem GM(L:List (List Int)):oa L = .sl 1 (L.map fB):=by unfold oa;rfl
@[simp] theorem akR(L:List (List Int)):closed (oa L)=true:=by unfold oa;exact zh L
@[simp] theorem am6(L:List (List Int))(H:U):oj .slice (oa L) H=some (.i L.length):=by unfold oa;simp
@[simp] theorem aqm(f:gd)(l:List (List Int))(lo hi:Option X):qS f 1 (oa l) lo hi=(gy f lo 0).bind fun a=>(gy f hi l.length).bind fun h=>if 0≤a∧a≤h∧h≤l.length then some (oa ((l.drop a.toNat).take (h.toNat-a.toNat)))else none:=by
 unfold oa;rw[M0,List.length_map];simp only[IV]
@[simp] theorem an2{l:List (List Int)}{n:Int}{k:IntKind}{P:D→Prop}:oA (mz 1 (oa l) (.val (.int k n))) P .mk=((0≤n∧n<l.length)∧P (.fj [dU (gt l n)])):=by
 unfold oa
 simp
def ON(l:List Int)(n:Int):D.val (.int .u8 n)::cl fU l=cl fU (n::l):=by rw[na,zn];rfl
def sC(b:List Int):(l3 b).length=32:=by rw[l3];exact Iw _
def V1(b:List Int)(h9:b.length≤4000000000):Wf T 210 [dU b] [] (Is (dU (0::b))):=by
 refine Yg D8 ?_
 simp[D8]
 (with_reducible repeat' first|refine Xk ?_<;>try simp|refine Xs ?_ ?_<;>intro h<;>(try intro h')<;>(try simp[h])<;>try omega|refine Xg ?_|omega)
 rw[ON]
 exact sY (k:=38) (by simp;omega)
def VQ(b:List Int)(h9:b.length≤3000000000):Wf T 142 [dU b] [] (Is (.agg (cl fU (l3 (0::b))))):=by
 have c:=Px (0::b) (by simp;omega)
 have hl:=sC (0::b)
 obtain⟨r,hr⟩:∃ r,l3 (0::b)=r:=⟨_,rfl⟩
 rw[hr]at c hl ⊢
 have lX:r.take 32=r:=ai (by omega)
 refine Yg D1 ?_
 simp[D1]
 refine Yc (V1 b (by omega)) ?_
 simp
 refine Yc (c) ?_
 simp[hl,lX]
def V2(a b:List Int)(ha:a.length=32)(hb:b.length=32):Wf T 211 [.agg (cl fU a),.agg (cl fU b)] [] (Is (dU (1::(a++b)))):=by
 have kf:a.take 32=a:=ai (by omega)
 have vJ:b.take 32=b:=ai (by omega)
 refine Yg D9 ?_
 simp[D9]
 (with_reducible repeat' first|refine Xk ?_<;>try simp[ha,hb,kf,vJ]|refine Xs ?_ ?_<;>intro h<;>(try intro h')<;>(try simp[h,ha,hb,kf,vJ])<;>try omega|refine Xg ?_|omega)
 rw[ON,kf,kf,vJ]
 exact sY (k:=38) (by simp;omega)
def VT(a b:List Int)(ha:a.length=32)(hb:b.length=32):Wf T 144 [.agg (cl fU a),.agg (cl fU b)] [] (Is (.agg (cl fU (l3 (1::(a++b)))))):=by
 have c:=Px (1::(a++b)) (by simp;omega)
 have hl:=sC (1::(a++b))
 obtain⟨r,hr⟩:∃ r,l3 (1::(a++b))=r:=⟨_,rfl⟩
 rw[hr]at c hl ⊢
 have lX:r.take 32=r:=ai (by omega)
 have kf:a.take 32=a:=ai (by omega)
 have vJ:b.take 32=b:=ai (by omega)
 refine Yg D2 ?_
 simp[D2,ha,hb,kf,vJ]
 refine Yc (V2 a b ha hb) ?_
 simp[kf,vJ]
 refine Yc (c) ?_
 simp[hl,lX]
def rI(r:Option (List (D×U))):Option Int:=match r with
 | some [(.val (.int .i64 n),[])]=>some n
 | _=>none
def SI{r:Option (List (D×U))}{n:Int}(h:rI r=some n):r=some [(.i n,[])]:=by
 unfold rI at h
 split at h
 ·cases h;rfl
 ·cases h
def Vk:(List.range 65).all (fun n=>Nat.ble n 1||decide (rI (run T [] 40 143 [.i n] [])=some (p6 n)))=true:=by kernel_rfl
def VR(n:Nat)(h0:2≤n)(h1:n≤64):Wf T 143 [.i n] [] (Is (.i (p6 n))):=by
 have h:=Vk
 rw[ar]at h
 have h:=h n (bC.2 (by omega))
 rw[bP,decide_eq_true_eq]at h
 rcases h with h|h
 ·exact absurd (cE h) (by omega)
 ·exact nV (SI h)
def O9{n:Nat}(h:2≤n):1≤p6 n∧p6 n<n:=by
 unfold p6
 have h1:=Nat.log2_self_le (n:=n-1) (by omega)
 have h2:0<2 ^ (Nat.log2 (n-1)):=Nat.pow_pos (by decide)
 omega
def afK(k:Nat):mX (k+1) []=l3 []:=by rw[mX,Aj]
def MI(k:Nat)(x:List Int):mX (k+1) [x]=l3 (0::x):=by rw[mX,Aj]
def MJ(k:Nat){l:List (List Int)}(h:2≤l.length):mX (k+1) l=l3 (1::(mX k (l.take (p6 l.length))++mX k (l.drop (p6 l.length)))):=by
 match l,h with
 | a::b::r,_=>rw[mX,mX,mX,Aj]<;>simp
def C'{k:Nat}{l:List (List Int)}(h:l.length<k):(mX k l).length=32:=by
 match k,l with
 | 0,_=>omega
 | k+1,[]=>rw[afK];exact sC _
 | k+1,[x]=>rw[MI];exact sC _
 | k+1,a::b::r=>rw[MJ k (by simp)];exact sC _
theorem J1:∀ (k:Nat) (l:List (List Int)),l.length<k→0<l.length→l.length≤64→(∀ x∈l,x.length≤3000000000)→Wf T 88 [oa l] [] (Is (.agg (cl fU (mX k l))))
 | 0,l,h,_,_,_=>by omega
 | k+1,l,hk,h0,Ko,hx=>by
  by_cases h1:l.length=1
  ·obtain⟨x,rfl⟩:∃ x,l = [x]:=by
    match l,h1 with
    | [x],_=>exact⟨x,rfl⟩
   rw[MI]
   have c:=VQ x (hx x (by simp))
   have hl:=sC (0::x)
   obtain⟨r,hr⟩:∃ r,l3 (0::x)=r:=⟨_,rfl⟩
   rw[hr]at c hl ⊢
   have lX:r.take 32=r:=ai (by omega)
   refine Yg yM ?_
   simp[yM]
   refine Yc (c) ?_
   simp[hl,lX]
  ·have hm:=O9 (n:=l.length) (by omega)
   have cm:=VR l.length (by omega) Ko
   rw[MJ k (by omega)]
   obtain⟨m,rY⟩:∃ m,p6 l.length=m:=⟨_,rfl⟩
   rw[rY]at hm cm ⊢
   have K5:(l.take m).length=m:=by rw[aI];omega
   have iy:(l.drop m).length=l.length-m:=by rw[aX]
   have ca:=J1 k (l.take m) (by omega) (by omega) (by omega) fun x h=>hx x (aN h)
   have cb:=J1 k (l.drop m) (by omega) (by omega) (by omega) fun x h=>hx x (bp h)
   have la:=C' (k:=k) (l:=l.take m) (by omega)
   have lb:=C' (k:=k) (l:=l.drop m) (by omega)
   obtain⟨A,hA⟩:∃ A,mX k (l.take m)=A:=⟨_,rfl⟩
   obtain⟨B,hB⟩:∃ B,mX k (l.drop m)=B:=⟨_,rfl⟩
   rw[hA]at ca la ⊢
   rw[hB]at cb lb ⊢
   have cp:=VT A B la lb
   have hl:=sC (1::(A++B))
   obtain⟨r,hr⟩:∃ r,l3 (1::(A++B))=r:=⟨_,rfl⟩
   rw[hr]at cp hl ⊢
   have lX:r.take 32=r:=ai (by omega)
   have n0:¬ l.length=0:=by omega
   have BQ:(l.drop m).take (l.length-m)=l.drop m:=ai (by omega)
   refine Yg yM ?_
   simp[yM,n0,h1]
   (with_reducible repeat' first|refine Xk ?_<;>try simp|refine Xs ?_ ?_<;>intro h<;>(try intro h')<;>(try simp[h])<;>try omega|refine Xg ?_|omega)
   refine Yc (cm) ?_
   simp
   (with_reducible repeat' first|refine Xk ?_<;>try simp|refine Xs ?_ ?_<;>intro h<;>(try intro h')<;>(try simp[h])<;>try omega|refine Xg ?_|omega)
   refine Yt (ca) ?_
   simp
   (with_reducible repeat' first|refine Xk ?_<;>try simp[BQ]|refine Xs ?_ ?_<;>intro h<;>(try intro h')<;>(try simp[h,BQ])<;>try omega|refine Xg ?_|omega)
   trace_state
   refine Yt (cb) ?_
   simp
   refine Yt (cp) ?_
   simp[hl,lX]
def I7{α:Type}[Inhabited α]{l:List α}{i:Int}(i0:0≤i)(i1:i<l.length):l.take (i+1).toNat=l.take i.toNat ++ [gt l i]:=by
 rw[show(i+1).toNat=i.toNat+1 by omega,dm,List.getElem?_eq_getElem (by omega),dh,← kl i0 i1]
def Wd(n:Nat)(h0:0<n)(h9:n≤4000000000):Wf T 277 [.eU,.i n] [] fun d H=>d = .eX 0 0 1 0 0∧H = [.row 5 0 (cl fU (zs n))]:=by
 refine Yg Ek ?_
 simp[Ek]
 (with_reducible repeat' first|refine Xk ?_<;>try simp|refine Xs ?_ ?_<;>intro h<;>(try intro h')<;>(try simp[h])<;>try omega|refine Xg ?_|omega)
 rw[← zc,tI,dT]
def Pz(L:List (List Int))(hl:0<L.length)(hL:L.length≤1000)(n:Nat)(hn:n=L.flatten.length)(h0:0<n)(h9:n≤4000000000):Wf T 224 [oa L] [] fun d H=>d = .eX 0 L.length 1 0 n∧H = [.row 5 L.length (cl fU L.flatten)]:=by
 have hle:∀ i:Nat,(L.take i).flatten.length≤n:=fun i=>by
  have:L.flatten=(L.take i).flatten++(L.drop i).flatten:=by rw[← dK,bI]
  rw[hn,this,az];omega
 refine Yg Ec ?_
 simp[Ec]
 refine fh.e (0:Int) (fun y=>[(0,oa L),(3,.i (((L.take y.toNat).flatten.length:Nat):Int)),(9,oa L),(10,.i L.length),(11,.i y)]) (fun y=>[]) (fun y=>0≤y∧y≤L.length) (fun y=>(L.length-y).toNat) ?_ ?_
 ·simp
 rintro i ⟨i0,i1⟩
 have QE:=hle i.toNat
 by_cases hi:i<L.length
 ·have e:=I7 (l:=L) i0 hi
  have ji:=hle (i+1).toNat
  have e2:(L.take (i+1).toNat).flatten.length=(L.take i.toNat).flatten.length+(gt L i).length:=by rw[e];simp
  simp only[hi]
  generalize (L.take i.toNat).flatten.length=a at *
  simp[hi]
  (with_reducible repeat' first|refine Xk ?_<;>try simp|refine Xs ?_ ?_<;>intro h<;>(try intro h')<;>(try simp[h])<;>try omega|refine Xg ?_|omega)
  refine LJ.i (i+1) (by first|rfl|simp[e2]) (by first|rfl|simp[e2]) rfl rfl ?_
  omega
 ·have jB:i=L.length:=by omega
  subst jB
  have HQ:L.take (L.length:Int).toNat=L:=ai (by omega)
  rw[HQ,← hn]
  simp
  refine Yn (Wd n h0 h9) ?_
  simp
  refine fh.e ((0,zs n):Int×List Int) (fun y=>[(6,.eX 0 y.1.toNat 1 0 (L.take y.1.toNat).flatten.length),(25,oa L),(26,.i L.length),(27,.i y.1)]) (fun y=>[.row 5 y.1.toNat (cl fU y.2)]) (fun y=>(0≤y.1∧y.1≤L.length)∧(y.1=0∨y.2=(L.take y.1.toNat).flatten)) (fun y=>(L.length-y.1).toNat) ?_ ?_
  ·simp
  rintro⟨i,R⟩ ⟨⟨i0,i1⟩,hR⟩
  dsimp only at i0 i1 hR ⊢
  have QE:=hle i.toNat
  by_cases hi:i<L.length
  ·have e:=I7 (l:=L) i0 hi
   have ji:=hle (i+1).toNat
   have e2:(L.take (i+1).toNat).flatten=(L.take i.toNat).flatten++gt L i:=by rw[e];simp
   have zA:R.take (L.take i.toNat).flatten.length=(L.take i.toNat).flatten:=by
    rcases hR with rfl|rfl
    ·simp
    ·exact ai (Nat.le_refl _)
   have Hq:(L.take i.toNat).flatten.length≤R.length:=by
    rcases hR with rfl|rfl
    ·simp
    ·exact Nat.le_refl _
   have iZ:(L.take (i+1).toNat).flatten.length=(L.take i.toNat).flatten.length+(gt L i).length:=by rw[e2,az]
   rw[show(i+1).toNat=i.toNat+1 by omega]at ji e2 iZ
   obtain⟨a,ha⟩:∃ a,(L.take i.toNat).flatten=a:=⟨_,rfl⟩
   rw[ha]at QE zA Hq iZ e2 ⊢
   simp[hi,Hq,zA]
   (with_reducible repeat' first|refine Xk ?_<;>try simp[Hq,zA]|refine Xs ?_ ?_<;>intro h<;>(try intro h')<;>(try simp[h,Hq,zA])<;>try omega|refine Xg ?_|omega)
   refine LJ.i (i+1,a++gt L i) (by first|rfl|simp[-List.length_flatten,iZ,e2,zA,show(i+1).toNat=i.toNat+1 by omega]) (by first|rfl|simp[-List.length_flatten,iZ,e2,zA,show(i+1).toNat=i.toNat+1 by omega]) rfl rfl ?_
   exact⟨by omega,jG,.inr (by rw[show(i+1).toNat=i.toNat+1 by omega];exact e2.symm)⟩
  ·have jB:i=L.length:=by omega
   subst jB
   rw[HQ]at hR ⊢
   rcases hR with h|rfl
   ·omega
   simp[← hn]
def VW:(List.range 65).all (fun n=>Nat.ble n 1||decide (rI (run T [] 40 157 [.i n] [])=some (p6 n)))=true:=by kernel_rfl
def VV(n:Nat)(h0:2≤n)(h1:n≤64):Wf T 157 [.i n] [] (Is (.i (p6 n))):=by
 have h:=VW
 rw[ar]at h
 have h:=h n (bC.2 (by omega))
 rw[bP,decide_eq_true_eq]at h
 rcases h with h|h
 ·exact absurd (cE h) (by omega)
 ·exact nV (SI h)
@[simp] theorem alE(l:List Int):rQ (cl fU l)=true:=by
 rw[← zc]
 induction l with
 | nil=>rfl
 | cons a r ih=>exact ih
def Kd(ρ:Nat→Option Nat)(H:U)(k t:Nat)(a:D):lQ ρ H k 1 0 1 (some (t,[a])) = .sl 1 [[e7 ρ H k a]]:=by
 unfold lQ;simp[chunks]
def P1(ρ:Nat→Option Nat)(H:U)(k t:Nat)(a b:D):lQ ρ H k 1 0 2 (some (t,[a,b])) = .sl 1 [[e7 ρ H k a],[e7 ρ H k b]]:=by
 unfold lQ;simp[chunks]
def P2(ρ:Nat→Option Nat)(H:U)(k t:Nat)(a b c:D):lQ ρ H k 1 0 3 (some (t,[a,b,c])) = .sl 1 [[e7 ρ H k a],[e7 ρ H k b],[e7 ρ H k c]]:=by
 unfold lQ;simp[chunks]
def VU(b:List Int)(h9:b.length≤3000000000):Wf T 156 [dU b] [] (Is (.agg (cl fU (l3 (0::b))))):=by
 have c:=Py (0::b) (by simp;omega)
 have cc:=Pz [[0],b] (by simp) (by simp) (b.length+1) (by simp) (by omega) (by omega)
 have hl:=sC (0::b)
 obtain⟨r,hr⟩:∃ r,l3 (0::b)=r:=⟨_,rfl⟩
 rw[hr]at c hl ⊢
 have lX:r.take 32=r:=ai (by omega)
 rw[show [[0],b].flatten=0::b by simp]at cc
 refine Yg D3 ?_
 simp[D3]
 refine fG.nr rfl rfl cc (by simp[GM,w8,Kd,P1,P2]) (by simp) (by simp) ?_
 simp
 refine fG.r rfl rfl c (by simp[w8]) (by simp[flat]) (by simp) ?_
 simp[hl,lX]
def sO.r{T:gP}{f:FuncId}{fn:eV}{args mZ:List D}{dst:Option Nat}{s:St}{R:List Fp}{Q:Rc→St→Prop}{d:D}{ob:Ob}(hf:T.fn f=some fn)(hp:fn.full=false)(h:Wf T f mZ [] fun d' H'=>d'=d∧H' = [ob])
  (hs:args.map (e7 (fun _=>none) s.H 40)=mZ) (hr:(np d&&oe ob)=true) (mS:(lU d&&mL ob)=true) (k:Q ⟨R,[(s.H.length,none)]⟩ { s with env:=put s.env dst (jK s.H.length d),H:=s.H ++ [ob] }):qX T f args R dst s Q .mk:=
 .inl (.inr ⟨fn,d,ob,hf,hp,by rw[hs];exact h,by split<;>assumption,k⟩)
def VX(a b:List Int)(ha:a.length=32)(hb:b.length=32):Wf T 158 [.agg (cl fU a),.agg (cl fU b)] [] (Is (.agg (cl fU (l3 (1::(a++b)))))):=by
 have c:=Py (1::(a++b)) (by simp;omega)
 have cc:=Pz [[1],a,b] (by simp) (by simp) 65 (by simp;omega) (by omega) (by omega)
 rw[show [[1],a,b].flatten=1::(a++b)by simp]at cc
 have hl:=sC (1::(a++b))
 obtain⟨r,hr⟩:∃ r,l3 (1::(a++b))=r:=⟨_,rfl⟩
 rw[hr]at c hl ⊢
 have lX:r.take 32=r:=ai (by omega)
 have kf:a.take 32=a:=ai (by omega)
 have vJ:b.take 32=b:=ai (by omega)
 refine Yg D4 ?_
 simp[D4,ha,hb,kf,vJ]
 refine sO.r rfl rfl cc (by simp[GM,w8,Kd,P1,P2,ha,hb]) (by simp) (by simp) ?_
 simp
 refine iC.r rfl rfl c (by simp only[List.map_cons,List.map_nil,AL.Th,af1];simp only[afN];simp;rw[sY (k:=38) (by simp;omega)];rfl) (by simp[flat]) (by simp) ?_
 simp[hl,lX]
theorem J2:∀ (k:Nat) (l:List (List Int)),l.length<k→0<l.length→l.length≤64→(∀ x∈l,x.length≤3000000000)→Wf T 97 [oa l] [] (Is (.agg (cl fU (mX k l))))
 | 0,l,h,_,_,_=>by omega
 | k+1,l,hk,h0,Ko,hx=>by
  by_cases h1:l.length=1
  ·obtain⟨x,rfl⟩:∃ x,l = [x]:=by
    match l,h1 with
    | [x],_=>exact⟨x,rfl⟩
   rw[MI]
   have c:=VU x (hx x (by simp))
   have hl:=sC (0::x)
   obtain⟨r,hr⟩:∃ r,l3 (0::x)=r:=⟨_,rfl⟩
   rw[hr]at c hl ⊢
   have lX:r.take 32=r:=ai (by omega)
   refine Yg yN ?_
   simp[yN]
   refine Yc (c) ?_
   simp[hl,lX]
  ·have hm:=O9 (n:=l.length) (by omega)
   have cm:=VV l.length (by omega) Ko
   rw[MJ k (by omega)]
   obtain⟨m,rY⟩:∃ m,p6 l.length=m:=⟨_,rfl⟩
   rw[rY]at hm cm ⊢
   have K5:(l.take m).length=m:=by rw[aI];omega
   have iy:(l.drop m).length=l.length-m:=by rw[aX]
   have ca:=J2 k (l.take m) (by omega) (by omega) (by omega) fun x h=>hx x (aN h)
   have cb:=J2 k (l.drop m) (by omega) (by omega) (by omega) fun x h=>hx x (bp h)
   have la:=C' (k:=k) (l:=l.take m) (by omega)
   have lb:=C' (k:=k) (l:=l.drop m) (by omega)
   obtain⟨A,hA⟩:∃ A,mX k (l.take m)=A:=⟨_,rfl⟩
   obtain⟨B,hB⟩:∃ B,mX k (l.drop m)=B:=⟨_,rfl⟩
   rw[hA]at ca la ⊢
   rw[hB]at cb lb ⊢
   have cp:=VX A B la lb
   have hl:=sC (1::(A++B))
   obtain⟨r,hr⟩:∃ r,l3 (1::(A++B))=r:=⟨_,rfl⟩
   rw[hr]at cp hl ⊢
   have lX:r.take 32=r:=ai (by omega)
   have n0:¬ l.length=0:=by omega
   have BQ:(l.drop m).take (l.length-m)=l.drop m:=ai (by omega)
   refine Yg yN ?_
   simp[yN,n0,h1]
   (with_reducible repeat' first|refine Xk ?_<;>try simp|refine Xs ?_ ?_<;>intro h<;>(try intro h')<;>(try simp[h])<;>try omega|refine Xg ?_|omega)
   refine Yc (cm) ?_
   simp
   (with_reducible repeat' first|refine Xk ?_<;>try simp|refine Xs ?_ ?_<;>intro h<;>(try intro h')<;>(try simp[h])<;>try omega|refine Xg ?_|omega)
   refine Yt (ca) ?_
   simp
   (with_reducible repeat' first|refine Xk ?_<;>try simp[BQ]|refine Xs ?_ ?_<;>intro h<;>(try intro h')<;>(try simp[h,BQ])<;>try omega|refine Xg ?_|omega)
   refine Yt (cb) ?_
   simp
   refine Yt (cp) ?_
   simp[hl,lX]
@[irreducible] def nU(v:List fe):List Int:=mX (v.length+1) (v.map pc)
theorem S5(v:List fe):(nU v).length=32:=by rw[nU];exact C' (by simp)
def OB(r:fe):(pc r).length=5:=rfl
def MY(a:Int):mA .i64 a 0=a:=by
 show a.fdiv (2 ^ (min (0:Int).toNat 64))=a
 simp
def VN(r:fe):Wf T 87 [.agg [.i r.1,.i r.2]] [] (Is (dU (pc r))):=by
 refine Yg DT ?_
 simp[DT]
 unfold lQ
 simp[chunks,w8,pc,MY]
def VO(r:fe):Wf T 96 [.agg [.i r.1,.i r.2]] [] (Is (dU (pc r))):=by
 refine Yg DV ?_
 simp[DV]
 refine fh.un ?_
 refine kS.u ?_
 simp
 refine kS.s (by simp;rfl) ?_
 refine kS.u ?_
 simp
 refine kS.s (by simp;rfl) ?_
 refine kS.u ?_
 simp
 refine kS.s (by simp;rfl) ?_
 refine kS.u ?_
 simp
 refine kS.s (by simp;rfl) ?_
 refine kS.u ?_
 simp[MY]
 unfold lQ
 simp[chunks,w8,pc,MY]
def OJ(x:List Int) : [dU x]=cl fB [x]:=by rw[jg,By]
@[simp] theorem UK(l:List (List Int))(x:List Int):cl fB l ++ [dU x]=cl fB (l ++ [x]):=by rw[← oR,By]
theorem VL(v:List fe)(h0:0<v.length)(h9:v.length≤64):Wf T 49 [gS v] [] (Is (.agg (cl fU (nU v)))):=by
 have c:Wf T 97 [oa (v.map pc)] [] (Is (.agg (cl fU (nU v)))):=by
  have:=J2 (v.length+1) (v.map pc) (by simp) (by simpa using h0) (by simpa using h9) fun x hx=>by obtain⟨r,_,rfl⟩:=aw.1 hx;rw[OB];omega
  rw[nU];exact this
 have hl:=S5 v
 obtain⟨r,hr⟩:∃ r,nU v=r:=⟨_,rfl⟩
 rw[hr]at c hl ⊢
 have lX:r.take 32=r:=ai (by omega)
 refine Yg DP ?_
 simp[DP]
 refine fh.e ((0,[]):Int×List (List Int)) (fun y=>[(2,.ptr 0 0 0),(3,if y.2 = []then .eU else .eX 1 (y.2.length-1) 1 0 y.2.length),(6,gS v),(7,.i v.length),(8,.i y.1)]) (fun y=>.row 70 0 (cl fU (zs 32))::(if y.2 = []then []else [.row 22 (y.2.length-1) (cl fB y.2)])) (fun y=>(0≤y.1∧y.1≤v.length)∧y.2=(v.take y.1.toNat).map pc) (fun y=>(v.length-y.1).toNat) ?_ ?_
 ·simp
 rintro⟨i,A⟩ ⟨⟨i0,i1⟩,hA⟩
 dsimp only at i0 i1 hA ⊢
 have p9:A.length=i.toNat:=by rw[hA];simp;omega
 by_cases hi:i<v.length
 ·have e:=I7 (l:=v) i0 hi
  have cb:=VO (gt v i)
  obtain⟨b,hb⟩:∃ b,pc (gt v i)=b:=⟨_,rfl⟩
  rw[hb]at cb
  have hn:A ++ [b]=(v.take (i+1).toNat).map pc:=by rw[e,List.map_append,← hA,← hb];rfl
  by_cases hz:A = []
  ·subst hz
   simp[hi]
   (with_reducible repeat' first|refine Xk ?_<;>try simp|refine Xs ?_ ?_<;>intro h<;>(try intro h')<;>(try simp[h])<;>try omega|refine Xg ?_|omega)
   refine Yc (cb) ?_
   simp
   (with_reducible repeat' first|refine Xk ?_<;>try simp|refine Xs ?_ ?_<;>intro h<;>(try intro h')<;>(try simp[h])<;>try omega|refine Xg ?_|omega)
   refine LJ.i (i+1,[b]) (by first|rfl|simp[OJ]) (by first|rfl|simp[OJ]) rfl rfl ?_
   exact⟨by omega,jG,hn⟩
  ·have hz0:0<A.length:=ay.2 hz
   rw[if_neg hz,if_neg hz]
   simp[hi]
   (with_reducible repeat' first|refine Xk ?_<;>try simp|refine Xs ?_ ?_<;>intro h<;>(try intro h')<;>(try simp[h])<;>try omega|refine Xg ?_|omega)
   refine Yc (cb) ?_
   simp
   (with_reducible repeat' first|refine Xk ?_<;>try simp|refine Xs ?_ ?_<;>intro h<;>(try intro h')<;>(try simp[h])<;>try omega|refine Xg ?_|omega)
   refine LJ.i (i+1,A ++ [b]) (by first|rfl|simp[show A.length-1+1=A.length by omega]) (by first|rfl|simp[show A.length-1+1=A.length by omega]) rfl rfl ?_
   exact⟨by omega,jG,hn⟩
 ·have jB:i=v.length:=by omega
  subst jB
  rw[ai (by omega)]at hA
  have hz:A≠[]:=fun e=>by rw[e]at p9;simp at p9;omega
  rw[← hA]at c
  rw[if_neg hz,if_neg hz]
  simp[hi]
  (with_reducible repeat' first|refine Xk ?_<;>try simp|refine Xs ?_ ?_<;>intro h<;>(try intro h')<;>(try simp[h])<;>try omega|refine Xg ?_|omega)
  refine fG.r rfl rfl c (by simp[GM]) (by simp[flat]) (by simp) ?_
  simp[hl,lX]
def VK(v:List fe)(h0:0<v.length)(h9:v.length≤64):Wf T 41 [gS v] [] (Is (.agg (cl fU (nU v)))):=by
 have c:Wf T 88 [oa (v.map pc)] [] (Is (.agg (cl fU (nU v)))):=by
  have:=J1 (v.length+1) (v.map pc) (by simp) (by simpa using h0) (by simpa using h9) fun x hx=>by obtain⟨r,_,rfl⟩:=aw.1 hx;rw[OB];omega
  rw[nU];exact this
 have hl:=S5 v
 obtain⟨r,hr⟩:∃ r,nU v=r:=⟨_,rfl⟩
 rw[hr]at c hl ⊢
 have lX:r.take 32=r:=ai (by omega)
 refine Yg DO ?_
 simp[DO]
 refine fh.e ((0,[]):Int×List (List Int)) (fun y=>[(0,gS v),(2,.ptr 0 0 0),(3,.eX 1 y.2.length 1 0 y.2.length),(4,.i y.1)]) (fun y=>[.row 70 0 (cl fU (zs 32)),.row 22 y.2.length (cl fB y.2)]) (fun y=>(0≤y.1∧y.1≤v.length)∧y.2=(v.take y.1.toNat).map pc) (fun y=>(v.length-y.1).toNat) ?_ ?_
 ·simp
 rintro⟨i,A⟩ ⟨⟨i0,i1⟩,hA⟩
 dsimp only at i0 i1 hA ⊢
 have p9:A.length=i.toNat:=by rw[hA];simp;omega
 by_cases hi:i<v.length
 ·have e:=I7 (l:=v) i0 hi
  have cb:=VN (gt v i)
  obtain⟨b,hb⟩:∃ b,pc (gt v i)=b:=⟨_,rfl⟩
  rw[hb]at cb
  have hn:A ++ [b]=(v.take (i+1).toNat).map pc:=by rw[e,List.map_append,← hA,← hb];rfl
  simp[hi]
  (with_reducible repeat' first|refine Xk ?_<;>try simp|refine Xs ?_ ?_<;>intro h<;>(try intro h')<;>(try simp[h])<;>try omega|refine Xg ?_|omega)
  refine Yc (cb) ?_
  simp
  (with_reducible repeat' first|refine Xk ?_<;>try simp|refine Xs ?_ ?_<;>intro h<;>(try intro h')<;>(try simp[h])<;>try omega|refine Xg ?_|omega)
  refine LJ.e (i+1,A ++ [b]) ?_
  exact⟨by omega,jG,hn⟩
 ·have jB:i=v.length:=by omega
  subst jB
  rw[ai (by omega)]at hA
  rw[← hA]at c
  simp[hi]
  (with_reducible repeat' first|refine Xk ?_<;>try simp|refine Xs ?_ ?_<;>intro h<;>(try intro h')<;>(try simp[h])<;>try omega|refine Xg ?_|omega)
  refine fG.r rfl rfl c (by simp[GM]) (by simp[flat]) (by simp) ?_
  simp[hl,lX]
def Pu{f:FuncId}{args:List D}{d:D}(h:Wf T f args [] (Is d)):Ev T (.call f args []) (ki [(d,[])]):=by
 refine Ev.mono h fun r hr=>?_
 obtain⟨d',H',hr,rfl,rfl⟩:=hr
 exact⟨_,List.mem_singleton.2 rfl,hr⟩
def G5(v:List fe)(b:List Int){a d:D}(ha:a=gS v)(hd:d = .agg (b.map fun n=>.val (.int .u8 n)))(hb:nU v=b)(h0:0<v.length)(h9:v.length≤64):Ev T (.call 49 [a] []) (ki [(d,[])]):=by
 subst ha hd
 rw[zc,← hb]
 exact Pu (VL v h0 h9)
def G4(v:List fe)(b:List Int){a d:D}(ha:a=gS v)(hd:d = .agg (b.map fun n=>.val (.int .u8 n)))(hb:nU v=b)(h0:0<v.length)(h9:v.length≤64):Ev T (.call 41 [a] []) (ki [(d,[])]):=by
 subst ha hd
 rw[zc,← hb]
 exact Pu (VK v h0 h9)
