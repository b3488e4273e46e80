/- Part 29 of DisputeLocal. -/
import Derived.Test.YtmehofoficaelaaGreatDoorL27
import Derived.Test.YtmehofoficaelaaGreatDoorL28
set_option linter.all false
namespace Go.Proofs.YtmehofoficaelaaGreatDoor
open Go Go.AL Classical
set_option maxRecDepth 10000
set_option maxHeartbeats 8000000
@[irreducible] def fN(x:List Int):List D:=[dN 1 f1 x]
theorem xi(x:List Int):fN x = [dN 1 f1 x]:=by unfold fN;rfl
instance:Fl fN 1:=⟨fun x=>by rw[xi];rfl,fun x=>by simp[xi,fE]⟩
def UM(a b:List (List Int))(x:List Int)(h:x≠[]):cl fN a++dI x::cl fN b=cl fN (a++x::b):=by
 rw[← ze,na,xi]
 cases x with
 | nil=>exact absurd rfl h
 | cons y r=>rfl
def OM(a b:List (List Int)):cl fN a++D.eU::cl fN b=cl fN (a ++ []::b):=by
 rw[← ze,na,xi];rfl
def afv(n:Nat):List.replicate n D.eU=cl fN (List.replicate n []):=by
 rw[← C8,xi]
 simp[dN]
def rP(l:List Pos)(n:Nat):List (Value×D):=(upto n).map fun j=>(.string (mU (gt l j)),.i j)
@[simp] theorem aq4(q:Nat→Bool)(n m:Nat)(l:List Pos):(List.map ((List.filter q) ∘ fun x:Value×D=>iH n x.2) (rP l m)).flatten = []:=
 flatten_nil fun a ha=>by
  obtain⟨j,_,rfl⟩:=aw.1 ha
  rfl
@[simp] theorem apT(ρ:Nat→Option Nat)(H:U)(m:Nat)(l:List Pos):(rP l m).map (fun x=>(x.1,e7 ρ H 40 x.2))=rP l m:=by
 rw[rP,cv]
 exact au fun j _=>by simp
theorem RX{α:Type}{f:α→ByteArray}{v:α→D}{k:ByteArray}{d:D}:∀ {l:List α},(∀ x∈l,k≠f x)→lK (l.map fun x=>((.string (f x):Value),v x)) (.string k) d=(l.map fun x=>((.string (f x):Value),v x)) ++ [(.string k,d)]
 | [],_=>by simp[lK]
 | a::l,h=>by
  rw[List.map_cons,lK,H4,RX fun x hx=>h x (by simp[hx])]
  simp[h a (by simp)]
theorem RU{α:Type}{f:α→ByteArray}{v:α→D}{x:α}:∀ {l:List α},x∈l→(∀ y∈l,f x=f y→y=x)→o4 (l.map fun x=>((.string (f x):Value),v x)) (.string (f x))=some (v x)
 | a::l,hx,h=>by
  rw[List.map_cons,o4,H4]
  by_cases e:f x=f a
  ·have:=h a (by simp) e
   subst this;simp
  ·have kD:x∈l:=(av.1 hx).resolve_left fun e2=>e (by rw[e2])
   rw[RU kD fun y hy=>h y (by simp[hy])]
   simp[e]
section
variable{g:eY}(hg:gh g){l:List Pos}(hl:∀ p∈l,gG g p)(hs:kc l)
include hg hl hs
theorem Rs{i j:Int}(i0:0≤i)(i1:i<l.length)(j0:0≤j)(j1:j<l.length)(h:mU (gt l i)=mU (gt l j)):i=j:=
 hs.inj i0 i1 j0 j1 (Rt hg (hl _ (ft i0 i1)) (hl _ (ft j0 j1)) h)
def aae{i:Int}(i0:0≤i)(i1:i<l.length):lK (rP l i.toNat) (.string (mU (gt l i))) (.i i)=rP l (i+1).toNat:=by
 unfold rP
 rw[RX (f:=fun j=>mU (gt l j)) (fun j hj e=>?_),tA i0,List.map_append]
 ·rfl
 ·rw[ku]at hj
  have:=Rs hg hl hs i0 i1 hj.1 (by omega) e
  omega
def RS{q:Pos}(hq:q∈l):o4 (rP l l.length) (.string (mU q))=some (.i (od l q)):=by
 obtain⟨h0,h1,h2⟩:=BD hq
 have:=RU (f:=fun j=>mU (gt l j)) (v:=fun j=>D.i j) (x:=od l q) (l:=upto l.length) (ku.2 ⟨h0,h1⟩) (fun y hy e=>by
  rw[ku]at hy
  exact(Rs hg hl hs h0 h1 hy.1 hy.2 e).symm)
 rw[h2]at this
 exact this
end
attribute [local simp] afv
def f52(g:eY)(hg:gh g)(l:List Pos)(hc:oz g l)(h0:0<l.length):Wf T 56 [dG g,gA l] [] (Is (.tup [.sl 1 ((fw g l).map fN),.i 0])):=by
 have hl:=hc.ok
 have hs:=hc.wF
 have h9:=hc.len
 have hb:=hg.iY.size
 refine Yz AV (iu 87 [3] AV.body) ?_
 simp[AV,iu,jJ,mj,mn,mG,ln]
 refine Yc (f98 g hg) ?_
 simp
 (with_reducible repeat' first|refine Xk ?_<;>try simp|refine Xs ?_ ?_<;>intro h<;>(try intro h')<;>(try simp[h])<;>try omega|refine Xg ?_|omega)
 refine Yr (f99 g hg l hl (by omega)) ?_
 simp
 (with_reducible repeat' first|refine Xk ?_<;>try simp|refine Xs ?_ ?_<;>intro h<;>(try intro h')<;>(try simp[h])<;>try omega|refine Xg ?_|omega)
 refine Yc (f100 l (by omega) (fun p hp=>(hl p hp).small hg) hs) ?_
 simp
 (with_reducible repeat' first|refine Xk ?_<;>try simp|refine Xs ?_ ?_<;>intro h<;>(try intro h')<;>(try simp[h])<;>try omega|refine Xg ?_|omega)
 refine fh.e (0:Int) (fun y=>[(1,gA l),(2,.ptr 0 0 0),(7,.gF 1),(37,gA l),(38,.i l.length),(39,.i y)]) (fun y=>[.row 43 0 g.cells,.map .str (rP l y.toNat)]) (fun y=>0≤y∧y≤l.length) (fun y=>(l.length-y).toNat) ?_ ?_
 ·simp
 rintro i ⟨i0,i1⟩
 by_cases hi:i<l.length
 ·have hp:=hl _ (ft i0 hi)
  have HH:=hp.size
  simp[hi]
  (with_reducible repeat' first|refine Xk ?_<;>try simp|refine Xs ?_ ?_<;>intro h<;>(try intro h')<;>(try simp[h])<;>try omega|refine Xg ?_|omega)
  refine Yc (f101 (gt l i) (by omega) (z7 hg hp)) ?_
  simp
  simp[aae hg hl hs i0 hi]
  (with_reducible repeat' first|refine Xk ?_<;>try simp|refine Xs ?_ ?_<;>intro h<;>(try intro h')<;>(try simp[h])<;>try omega|refine Xg ?_|omega)
  refine LJ.e (i+1) ?_
  exact mW
 ·have e:i=l.length:=by omega
  subst e
  have Ku:(fw g l).length=l.length:=by simp[fw]
  simp
  (with_reducible repeat' first|refine Xk ?_<;>try simp|refine Xs ?_ ?_<;>intro h<;>(try intro h')<;>(try simp[h])<;>try omega|refine Xg ?_|omega)
  refine fh.e (0:Int) (fun y=>[(2,.ptr 0 0 0),(7,.gF 1),(10,.eX 2 0 1 0 l.length),(52,gA l),(53,.i l.length),(54,.i y)]) (fun y=>[.row 43 0 g.cells,.map .str (rP l l.length),.row 37 0 (cl fN ((fw g l).take y.toNat++List.replicate (l.length-y.toNat) []))]) (fun y=>0≤y∧y≤l.length) (fun y=>(l.length-y).toNat) ?_ ?_
  ·simp
  rintro i ⟨i0,i1⟩
  by_cases hi:i<l.length
  ·have hp:=hl _ (ft i0 hi)
   obtain⟨n1,n2⟩:=o5 hc i0 hi
   have xM:∀ q∈ig g (gt l i),q∈l:=fun q hq=>hc.cl _ (ft i0 hi) q (yd.1 hq)
   have QH:=wi hg hp
   simp[hi]
   (with_reducible repeat' first|refine Xk ?_<;>try simp|refine Xs ?_ ?_<;>intro h<;>(try intro h')<;>(try simp[h])<;>try omega|refine Xg ?_|omega)
   refine Yc (f26 g hg (gt l i) hp) ?_
   simp
   have gH:cl fN ((fw g l).take i.toNat++List.replicate (l.length-i.toNat) [])=cl fN ((fw g l).take i.toNat) ++ .eU::cl fN (List.replicate (l.length-(i+1).toNat) []):=by
    have hR:List.replicate (l.length-i.toNat) ([]:List Int) = []::List.replicate (l.length-(i+1).toNat) []:=by
     rw[← bw];congr 1;omega
    rw[hR,OM]
   have Qe:(fw g l).take (i+1).toNat=(fw g l).take i.toNat ++ [gt (fw g l) i]:=iD i0 (by omega)
   have Xa:gt (fw g l) i = []→cl fN ((fw g l).take i.toNat) ++ .eU::cl fN (List.replicate (l.length-(i+1).toNat) [])=cl fN ((fw g l).take (i+1).toNat++List.replicate (l.length-(i+1).toNat) []):=fun e=>by
    rw[OM,Qe,e];simp
   have BJ:gt (fw g l) i≠[]→cl fN ((fw g l).take i.toNat)++dI (gt (fw g l) i)::cl fN (List.replicate (l.length-(i+1).toNat) [])=cl fN ((fw g l).take (i+1).toNat++List.replicate (l.length-(i+1).toNat) []):=fun e=>by
    rw[UM _ _ _ e,Qe];simp
   have p9:(cl fN ((fw g l).take i.toNat)).length=i.toNat:=by rw[sS,aI];omega
   have rn:∀ (ρ:Nat→Option Nat) (H:U) (k:Nat),(cl fN ((fw g l).take i.toNat)).map (e7 ρ H k)=cl fN ((fw g l).take i.toNat):=fun ρ H k=>x6 (sQ _)
   have rp:∀ (ρ:Nat→Option Nat) (H:U) (k:Nat),(cl fN (List.replicate (l.length-(i+1).toNat) [])).map (e7 ρ H k)=cl fN (List.replicate (l.length-(i+1).toNat) []):=fun ρ H k=>x6 (sQ _)
   have q9:∀ (q:Nat→Bool) (n:Nat),(List.map ((List.filter q) ∘ iH n) (cl fN ((fw g l).take i.toNat))).flatten = []:=fun q n=>flatten_nil fun a ha=>by
    show List.filter q (iH n a) = []
    rw[I8 n (lO (sQ _) a ha)];rfl
   have q':∀ (q:Nat→Bool) (n:Nat),(List.map ((List.filter q) ∘ iH n) (cl fN (List.replicate (l.length-(i+1).toNat) []))).flatten = []:=fun q n=>flatten_nil fun a ha=>by
    show List.filter q (iH n a) = []
    rw[I8 n (lO (sQ _) a ha)];rfl
   have rS:(gt (fw g l) i).length=(ig g (gt l i)).length:=by rw[n1,List.length_map]
   have hK:∀ j:Int,0≤j→j<(ig g (gt l i)).length→gt (gt (fw g l) i) j=od l (gt (ig g (gt l i)) j):=fun j j0 j1=>by
    rw[n1,kl j0 (by rw[List.length_map];exact j1),kl j0 j1,List.getElem_map]
   generalize cl fN ((fw g l).take i.toNat)=A at *
   generalize hRR:cl fN (List.replicate (l.length-(i+1).toNat) [])=R at *
   have hG:∀ (d:D) (r:List D),(A++d::r)[i.toNat]? = some d:=fun d r=>by rw[ao (by omega),p9];simp
   have hT:∀ (d:D) (r:List D),(A++d::r).take i.toNat=A:=fun d r=>by rw[bH (by omega),ai (by omega)]
   have zx:∀ (d:D) (r:List D),(A++d::r).drop (i.toNat+1)=r:=fun d r=>by rw[List.drop_append,bh (by omega),p9];simp
   have hLn:∀ (d:D),i.toNat<(A++d::R).length:=fun d=>by simp;omega
   refine fh.e (0:Int) (fun y=>[(2,.ptr 0 0 0),(7,.gF 1),(10,.eX 2 0 1 0 l.length),(11,.i i),(52,gA l),(53,.i l.length),(54,.i i),(61,dN 5 Pos.cells (ig g (gt l i))),(62,.i (ig g (gt l i)).length),(63,.i y)]) (fun y=>[.row 43 0 g.cells,.map .str (rP l l.length),.row 37 0 (A++(if y=0 then .eU else .eX 4 (y.toNat-1) 1 0 y.toNat)::R),.row 46 0 (gt l i).cells]++(if y=0 then []else [.row 3 (y.toNat-1) (cl f1 ((gt (fw g l) i).take y.toNat))])) (fun y=>0≤y∧y≤(ig g (gt l i)).length) (fun y=>((ig g (gt l i)).length-y).toNat) ?_ ?_
   ·simp
   rintro k ⟨k0,k1⟩
   by_cases hk:k<(ig g (gt l i)).length
   ·have hq:=xM _ (ft k0 hk)
    have Lk:=hl _ hq
    have HI:=Lk.size
    by_cases hz:k=0
    ·subst hz
     rw[if_pos rfl,if_pos rfl]
     simp[hk]
     (with_reducible repeat' first|refine Xk ?_<;>try simp|refine Xs ?_ ?_<;>intro h<;>(try intro h')<;>(try simp[h])<;>try omega|refine Xg ?_|omega)
     refine Yc (f101 (gt (ig g (gt l i)) 0) (by omega) (z7 hg Lk)) ?_
     simp
     simp[RS hg hl hs hq]
     (with_reducible repeat' first|refine Xk ?_<;>try simp|refine Xs ?_ ?_<;>intro h<;>(try intro h')<;>(try simp[h])<;>try omega|refine Xg ?_|omega)
     simp[hG,hT,zx,p9,rn,rp,q9,q',rS]
     (with_reducible repeat' first|refine Xk ?_<;>try simp[hG,hT,zx,p9,rn,rp,q9,q',rS]|refine Xs ?_ ?_<;>intro h<;>(try intro h')<;>(try simp[h,hG,hT,zx,p9,rn,rp,q9,q',rS])<;>try omega|refine Xg ?_|omega)
     have t1:(gt (fw g l) i).take 1 = [od l (gt (ig g (gt l i)) 0)]:=by
      have:=iD (l:=gt (fw g l) i) (n:=0) (by omega) (by omega)
      rw[hK 0 (by omega) (by omega)]at this
      exact this
     refine LJ.i (1:Int) (by first|rfl|simp[t1,jg]) (by first|rfl|simp[t1,jg]) rfl rfl ?_
     exact mW
    ·rw[if_neg hz,if_neg hz]
     simp[hk]
     (with_reducible repeat' first|refine Xk ?_<;>try simp|refine Xs ?_ ?_<;>intro h<;>(try intro h')<;>(try simp[h])<;>try omega|refine Xg ?_|omega)
     refine Yc (f101 (gt (ig g (gt l i)) k) (by omega) (z7 hg Lk)) ?_
     simp
     simp[RS hg hl hs hq]
     (with_reducible repeat' first|refine Xk ?_<;>try simp|refine Xs ?_ ?_<;>intro h<;>(try intro h')<;>(try simp[h])<;>try omega|refine Xg ?_|omega)
     simp[hG,hT,zx,p9,rn,rp,q9,q',rS]
     (with_reducible repeat' first|refine Xk ?_<;>try simp[hG,hT,zx,p9,rn,rp,q9,q',rS]|refine Xs ?_ ?_<;>intro h<;>(try intro h')<;>(try simp[h,hG,hT,zx,p9,rn,rp,q9,q',rS])<;>try omega|refine Xg ?_|omega)
     have t2:(gt (fw g l) i).take (k.toNat+1)=(gt (fw g l) i).take k.toNat ++ [od l (gt (ig g (gt l i)) k)]:=by
      have:=iD (l:=gt (fw g l) i) (n:=k) (by omega) (by omega)
      rw[hK k (by omega) (by omega),show(k+1).toNat=k.toNat+1 by omega]at this
      exact this
     refine LJ.i (k+1) (by first|rfl|simp[show ¬ (k+1=0)by omega,show(k+1).toNat=k.toNat+1 by omega,show k.toNat-1+1=k.toNat by omega,t2,di]) (by first|rfl|simp[show ¬ (k+1=0)by omega,show(k+1).toNat=k.toNat+1 by omega,show k.toNat-1+1=k.toNat by omega,t2,di]) rfl rfl ?_
     exact mW
   ·by_cases hz:k=0
    ·have eK:gt (fw g l) i = []:=aB.1 (by omega)
     have e0:=Xa eK
     subst hz
     rw[if_pos rfl,if_pos rfl]
     simp[show ¬ 0<(ig g (gt l i)).length by omega,rn,rp,q9,q']
     (with_reducible repeat' first|refine Xk ?_<;>try simp[rn,rp,q9,q']|refine Xs ?_ ?_<;>intro h<;>(try intro h')<;>(try simp[h,rn,rp,q9,q'])<;>try omega|refine Xg ?_|omega)
     exact LJ.i (i+1) rfl (by rw[← e0]) rfl rfl mW
    ·have eK:gt (fw g l) i≠[]:=fun e=>by rw[e]at rS;simp at rS;omega
     have e1:=BJ eK
     have tk:(gt (fw g l) i).take k.toNat=gt (fw g l) i:=ai (by omega)
     rw[if_neg hz,if_neg hz]
     have xK:k.toNat=(ig g (gt l i)).length:=by omega
     simp[hk,rn,rp,q9,q',rS,tk,xK]
     (with_reducible repeat' first|refine Xk ?_<;>try simp[rn,rp,q9,q',rS,tk,xK]|refine Xs ?_ ?_<;>intro h<;>(try intro h')<;>(try simp[h,rn,rp,q9,q',rS,tk,xK])<;>try omega|refine Xg ?_|omega)
     exact LJ.i (i+1) rfl (by rw[← e1]) rfl rfl mW
  ·have e:i=l.length:=by omega
   subst e
   simp
   rw[ai (by omega),sY Ku.symm]
