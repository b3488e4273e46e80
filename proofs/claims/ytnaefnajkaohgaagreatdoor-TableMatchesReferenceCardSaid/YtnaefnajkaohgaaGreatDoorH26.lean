/- 26 -/
import Derived.Test.YtnaefnajkaohgaaGreatDoorH24
import Derived.Test.YtnaefnajkaohgaaGreatDoorH25
set_option linter.all false
namespace Go.Proofs.YtnaefnajkaohgaaGreatDoor
open Go Go.AL Classical
set_option maxRecDepth 10000
set_option maxHeartbeats 8000000
@[irreducible] def fN(x:List Int):List D:=[dN 1 f1 x]
theorem sn(x:List Int):fN x = [dN 1 f1 x]:=by unfold fN;rfl
instance:Fl fN 1:=⟨fun x=>by rw[sn];rfl,fun x=>by simp[sn,fu]⟩
def Uq(a b:List (List Int))(x:List Int)(h:x≠[]):cl fN a++dI x::cl fN b=cl fN (a++x::b):=by
 rw[← zb,mY,sn]
 cases x with
 | nil=>exact absurd rfl h
 | cons y r=>rfl
def Om(a b:List (List Int)):cl fN a++D.eG::cl fN b=cl fN (a ++ []::b):=by
 rw[← zb,mY,sn];rfl
def afD(n:Nat):List.replicate n D.eG=cl fN (List.replicate n []):=by
 rw[← Dc,sn]
 simp[dN]
def sk(l:List Pos)(n:Nat):List (Value×D):=(upto n).map fun j=>(.string (mS (gt l j)),.i j)
@[simp] theorem aqP(q:Nat→Bool)(n m:Nat)(l:List Pos):(List.map ((List.filter q) ∘ fun x:Value×D=>gW n x.2) (sk l m)).flatten = []:=
 flatten_nil fun a ha=>by
  obtain⟨j,_,rfl⟩:=ao.1 ha
  rfl
@[simp] theorem apK(ρ:Nat→Option Nat)(H:U)(m:Nat)(l:List Pos):(sk l m).map (fun x=>(x.1,eP ρ H 40 x.2))=sk l m:=by
 rw[sk,bp]
 exact aj fun j _=>by simp
theorem RC{α:Type}{f:α→ByteArray}{v:α→D}{k:ByteArray}{d:D}:∀ {l:List α},(∀ x∈l,k≠f x)→ke (l.map fun x=>((.string (f x):Value),v x)) (.string k) d=(l.map fun x=>((.string (f x):Value),v x)) ++ [(.string k,d)]
 | [],_=>by simp[ke]
 | a::l,h=>by
  rw[List.map_cons,ke,Im,RC fun x hx=>h x (by simp[hx])]
  simp[h a (by simp)]
theorem Rz{α:Type}{f:α→ByteArray}{v:α→D}{x:α}:∀ {l:List α},x∈l→(∀ y∈l,f x=f y→y=x)→lL (l.map fun x=>((.string (f x):Value),v x)) (.string (f x))=some (v x)
 | a::l,hx,h=>by
  rw[List.map_cons,lL,Im]
  by_cases e:f x=f a
  ·have:=h a (by simp) e
   subst this;simp
  ·have lJ:x∈l:=(au.1 hx).resolve_left fun e2=>e (by rw[e2])
   rw[Rz lJ fun y hy=>h y (by simp[hy])]
   simp[e]
section
variable{g:eH}(hg:fe g){l:List Pos}(hl:∀ p∈l,fO g p)(hs:jM l)
include hg hl hs
theorem Q5{i j:Int}(i0:0≤i)(i1:i<l.length)(j0:0≤j)(j1:j<l.length)(h:mS (gt l i)=mS (gt l j)):i=j:=
 hs.inj i0 i1 j0 j1 (Q6 hg (hl _ (eQ i0 i1)) (hl _ (eQ j0 j1)) h)
def aav{i:Int}(i0:0≤i)(i1:i<l.length):ke (sk l i.toNat) (.string (mS (gt l i))) (.i i)=sk l (i+1).toNat:=by
 unfold sk
 rw[RC (f:=fun j=>mS (gt l j)) (fun j hj e=>?_),sQ i0,List.map_append]
 ·rfl
 ·rw[jI]at hj
  have:=Q5 hg hl hs i0 i1 hj.1 (by omega) e
  omega
def Ry{q:Pos}(hq:q∈l):lL (sk l l.length) (.string (mS q))=some (.i (oe l q)):=by
 obtain⟨h0,h1,h2⟩:=BI hq
 have:=Rz (f:=fun j=>mS (gt l j)) (v:=fun j=>D.i j) (x:=oe l q) (l:=upto l.length) (jI.2 ⟨h0,h1⟩) (fun y hy e=>by
  rw[jI]at hy
  exact(Q5 hg hl hs h0 h1 hy.1 hy.2 e).symm)
 rw[h2]at this
 exact this
end
attribute [local simp] afD
def f52(g:eH)(hg:fe g)(l:List Pos)(hc:jo g l)(h0:0<l.length):Wf T 52 [dG g,e7 l] [] (Is (.tup [.sl 1 ((eS g l).map fN),.i 0])):=by
 have hl:=hc.ok
 have hs:=hc.tW
 have h9:=hc.len
 have hb:=hg.iw.size
 refine Yz AW (gL 87 [3] AW.body) ?_
 simp[AW,gL,jg,lD,lH,lS,ku]
 refine Yc (f98 g hg) ?_
 simp
 (with_reducible repeat' first|refine Xk ?_<;>try simp|refine Xs ?_ ?_<;>intro h<;>(try intro h')<;>(try simp[h])<;>try omega|refine Xg ?_|omega)
 refine Yr (f99 g hg l hl (by omega)) ?_
 simp
 (with_reducible repeat' first|refine Xk ?_<;>try simp|refine Xs ?_ ?_<;>intro h<;>(try intro h')<;>(try simp[h])<;>try omega|refine Xg ?_|omega)
 refine Yc (f100 l (by omega) (fun p hp=>(hl p hp).small hg) hs) ?_
 simp
 (with_reducible repeat' first|refine Xk ?_<;>try simp|refine Xs ?_ ?_<;>intro h<;>(try intro h')<;>(try simp[h])<;>try omega|refine Xg ?_|omega)
 refine eN.e (0:Int) (fun y=>[(1,e7 l),(2,.ptr 0 0 0),(7,.fE 1),(37,e7 l),(38,.i l.length),(39,.i y)]) (fun y=>[.row 41 0 g.cells,.map .str (sk l y.toNat)]) (fun y=>0≤y∧y≤l.length) (fun y=>(l.length-y).toNat) ?_ ?_
 ·simp
 rintro i ⟨i0,i1⟩
 by_cases hi:i<l.length
 ·have hp:=hl _ (eQ i0 hi)
  have HY:=hp.size
  simp[hi]
  (with_reducible repeat' first|refine Xk ?_<;>try simp|refine Xs ?_ ?_<;>intro h<;>(try intro h')<;>(try simp[h])<;>try omega|refine Xg ?_|omega)
  refine Yc (f101 (gt l i) (by omega) (zY hg hp)) ?_
  simp
  simp[aav hg hl hs i0 hi]
  (with_reducible repeat' first|refine Xk ?_<;>try simp|refine Xs ?_ ?_<;>intro h<;>(try intro h')<;>(try simp[h])<;>try omega|refine Xg ?_|omega)
  refine LJ.e (i+1) ?_
  exact l4
 ·have e:i=l.length:=by omega
  subst e
  have KJ:(eS g l).length=l.length:=by simp[eS]
  simp
  (with_reducible repeat' first|refine Xk ?_<;>try simp|refine Xs ?_ ?_<;>intro h<;>(try intro h')<;>(try simp[h])<;>try omega|refine Xg ?_|omega)
  refine eN.e (0:Int) (fun y=>[(2,.ptr 0 0 0),(7,.fE 1),(10,.eF 2 0 1 0 l.length),(52,e7 l),(53,.i l.length),(54,.i y)]) (fun y=>[.row 41 0 g.cells,.map .str (sk l l.length),.row 33 0 (cl fN ((eS g l).take y.toNat++List.replicate (l.length-y.toNat) []))]) (fun y=>0≤y∧y≤l.length) (fun y=>(l.length-y).toNat) ?_ ?_
  ·simp
  rintro i ⟨i0,i1⟩
  by_cases hi:i<l.length
  ·have hp:=hl _ (eQ i0 hi)
   obtain⟨n1,n2⟩:=mB hc i0 hi
   have xO:∀ q∈gR g (gt l i),q∈l:=fun q hq=>hc.cl _ (eQ i0 hi) q (x9.1 hq)
   have Qf:=tN hg hp
   simp[hi]
   (with_reducible repeat' first|refine Xk ?_<;>try simp|refine Xs ?_ ?_<;>intro h<;>(try intro h')<;>(try simp[h])<;>try omega|refine Xg ?_|omega)
   refine Yc (f26 g hg (gt l i) hp) ?_
   simp
   have gq:cl fN ((eS g l).take i.toNat++List.replicate (l.length-i.toNat) [])=cl fN ((eS g l).take i.toNat) ++ .eG::cl fN (List.replicate (l.length-(i+1).toNat) []):=by
    have hR:List.replicate (l.length-i.toNat) ([]:List Int) = []::List.replicate (l.length-(i+1).toNat) []:=by
     rw[← bK];congr 1;omega
    rw[hR,Om]
   have PH:(eS g l).take (i+1).toNat=(eS g l).take i.toNat ++ [gt (eS g l) i]:=gx i0 (by omega)
   have WK:gt (eS g l) i = []→cl fN ((eS g l).take i.toNat) ++ .eG::cl fN (List.replicate (l.length-(i+1).toNat) [])=cl fN ((eS g l).take (i+1).toNat++List.replicate (l.length-(i+1).toNat) []):=fun e=>by
    rw[Om,PH,e];simp
   have BO:gt (eS g l) i≠[]→cl fN ((eS g l).take i.toNat)++dI (gt (eS g l) i)::cl fN (List.replicate (l.length-(i+1).toNat) [])=cl fN ((eS g l).take (i+1).toNat++List.replicate (l.length-(i+1).toNat) []):=fun e=>by
    rw[Uq _ _ _ e,PH];simp
   have vO:(cl fN ((eS g l).take i.toNat)).length=i.toNat:=by rw[xa,aT];omega
   have rN:∀ (ρ:Nat→Option Nat) (H:U) (k:Nat),(cl fN ((eS g l).take i.toNat)).map (eP ρ H k)=cl fN ((eS g l).take i.toNat):=fun ρ H k=>x6 (sh _)
   have rO:∀ (ρ:Nat→Option Nat) (H:U) (k:Nat),(cl fN (List.replicate (l.length-(i+1).toNat) [])).map (eP ρ H k)=cl fN (List.replicate (l.length-(i+1).toNat) []):=fun ρ H k=>x6 (sh _)
   have rF:∀ (q:Nat→Bool) (n:Nat),(List.map ((List.filter q) ∘ gW n) (cl fN ((eS g l).take i.toNat))).flatten = []:=fun q n=>flatten_nil fun a ha=>by
    show List.filter q (gW n a) = []
    rw[Dv n (lE (sh _) a ha)];rfl
   have rG:∀ (q:Nat→Bool) (n:Nat),(List.map ((List.filter q) ∘ gW n) (cl fN (List.replicate (l.length-(i+1).toNat) []))).flatten = []:=fun q n=>flatten_nil fun a ha=>by
    show List.filter q (gW n a) = []
    rw[Dv n (lE (sh _) a ha)];rfl
   have sw:(gt (eS g l) i).length=(gR g (gt l i)).length:=by rw[n1,List.length_map]
   have hK:∀ j:Int,0≤j→j<(gR g (gt l i)).length→gt (gt (eS g l) i) j=oe l (gt (gR g (gt l i)) j):=fun j j0 j1=>by
    rw[n1,mw j0 (by rw[List.length_map];exact j1),mw j0 j1,List.getElem_map]
   generalize cl fN ((eS g l).take i.toNat)=A at *
   generalize hRR:cl fN (List.replicate (l.length-(i+1).toNat) [])=R at *
   have hG:∀ (d:D) (r:List D),(A++d::r)[i.toNat]? = some d:=fun d r=>by rw[ak (by omega),vO];simp
   have hT:∀ (d:D) (r:List D),(A++d::r).take i.toNat=A:=fun d r=>by rw[bf (by omega),aC (by omega)]
   have zu:∀ (d:D) (r:List D),(A++d::r).drop (i.toNat+1)=r:=fun d r=>by rw[List.drop_append,aR (by omega),vO];simp
   have WM:∀ (d:D),i.toNat<(A++d::R).length:=fun d=>by simp;omega
   refine eN.e (0:Int) (fun y=>[(2,.ptr 0 0 0),(7,.fE 1),(10,.eF 2 0 1 0 l.length),(11,.i i),(52,e7 l),(53,.i l.length),(54,.i i),(61,dN 5 Pos.cells (gR g (gt l i))),(62,.i (gR g (gt l i)).length),(63,.i y)]) (fun y=>[.row 41 0 g.cells,.map .str (sk l l.length),.row 33 0 (A++(if y=0 then .eG else .eF 4 (y.toNat-1) 1 0 y.toNat)::R),.row 44 0 (gt l i).cells]++(if y=0 then []else [.row 3 (y.toNat-1) (cl f1 ((gt (eS g l) i).take y.toNat))])) (fun y=>0≤y∧y≤(gR g (gt l i)).length) (fun y=>((gR g (gt l i)).length-y).toNat) ?_ ?_
   ·simp
   rintro k ⟨k0,k1⟩
   by_cases hk:k<(gR g (gt l i)).length
   ·have hq:=xO _ (eQ k0 hk)
    have Lw:=hl _ hq
    have HZ:=Lw.size
    by_cases hz:k=0
    ·subst hz
     rw[if_pos rfl,if_pos rfl]
     simp[hk]
     (with_reducible repeat' first|refine Xk ?_<;>try simp|refine Xs ?_ ?_<;>intro h<;>(try intro h')<;>(try simp[h])<;>try omega|refine Xg ?_|omega)
     refine Yc (f101 (gt (gR g (gt l i)) 0) (by omega) (zY hg Lw)) ?_
     simp
     simp[Ry hg hl hs hq]
     (with_reducible repeat' first|refine Xk ?_<;>try simp|refine Xs ?_ ?_<;>intro h<;>(try intro h')<;>(try simp[h])<;>try omega|refine Xg ?_|omega)
     simp[hG,hT,zu,vO,rN,rO,rF,rG,sw]
     (with_reducible repeat' first|refine Xk ?_<;>try simp[hG,hT,zu,vO,rN,rO,rF,rG,sw]|refine Xs ?_ ?_<;>intro h<;>(try intro h')<;>(try simp[h,hG,hT,zu,vO,rN,rO,rF,rG,sw])<;>try omega|refine Xg ?_|omega)
     have t1:(gt (eS g l) i).take 1 = [oe l (gt (gR g (gt l i)) 0)]:=by
      have:=gx (l:=gt (eS g l) i) (n:=0) (by omega) (by omega)
      rw[hK 0 (by omega) (by omega)]at this
      exact this
     refine LJ.i (1:Int) (by first|rfl|simp[t1,ix]) (by first|rfl|simp[t1,ix]) rfl rfl ?_
     exact l4
    ·rw[if_neg hz,if_neg hz]
     simp[hk]
     (with_reducible repeat' first|refine Xk ?_<;>try simp|refine Xs ?_ ?_<;>intro h<;>(try intro h')<;>(try simp[h])<;>try omega|refine Xg ?_|omega)
     refine Yc (f101 (gt (gR g (gt l i)) k) (by omega) (zY hg Lw)) ?_
     simp
     simp[Ry hg hl hs hq]
     (with_reducible repeat' first|refine Xk ?_<;>try simp|refine Xs ?_ ?_<;>intro h<;>(try intro h')<;>(try simp[h])<;>try omega|refine Xg ?_|omega)
     simp[hG,hT,zu,vO,rN,rO,rF,rG,sw]
     (with_reducible repeat' first|refine Xk ?_<;>try simp[hG,hT,zu,vO,rN,rO,rF,rG,sw]|refine Xs ?_ ?_<;>intro h<;>(try intro h')<;>(try simp[h,hG,hT,zu,vO,rN,rO,rF,rG,sw])<;>try omega|refine Xg ?_|omega)
     have t2:(gt (eS g l) i).take (k.toNat+1)=(gt (eS g l) i).take k.toNat ++ [oe l (gt (gR g (gt l i)) k)]:=by
      have:=gx (l:=gt (eS g l) i) (n:=k) (by omega) (by omega)
      rw[hK k (by omega) (by omega),show(k+1).toNat=k.toNat+1 by omega]at this
      exact this
     refine LJ.i (k+1) (by first|rfl|simp[show ¬ (k+1=0)by omega,show(k+1).toNat=k.toNat+1 by omega,show k.toNat-1+1=k.toNat by omega,t2,cJ]) (by first|rfl|simp[show ¬ (k+1=0)by omega,show(k+1).toNat=k.toNat+1 by omega,show k.toNat-1+1=k.toNat by omega,t2,cJ]) rfl rfl ?_
     exact l4
   ·by_cases hz:k=0
    ·have eK:gt (eS g l) i = []:=aB.1 (by omega)
     have e0:=WK eK
     subst hz
     rw[if_pos rfl,if_pos rfl]
     simp[show ¬ 0<(gR g (gt l i)).length by omega,rN,rO,rF,rG]
     (with_reducible repeat' first|refine Xk ?_<;>try simp[rN,rO,rF,rG]|refine Xs ?_ ?_<;>intro h<;>(try intro h')<;>(try simp[h,rN,rO,rF,rG])<;>try omega|refine Xg ?_|omega)
     exact LJ.i (i+1) rfl (by rw[← e0]) rfl rfl l4
    ·have eK:gt (eS g l) i≠[]:=fun e=>by rw[e]at sw;simp at sw;omega
     have e1:=BO eK
     have tk:(gt (eS g l) i).take k.toNat=gt (eS g l) i:=aC (by omega)
     rw[if_neg hz,if_neg hz]
     have zH:k.toNat=(gR g (gt l i)).length:=by omega
     simp[hk,rN,rO,rF,rG,sw,tk,zH]
     (with_reducible repeat' first|refine Xk ?_<;>try simp[rN,rO,rF,rG,sw,tk,zH]|refine Xs ?_ ?_<;>intro h<;>(try intro h')<;>(try simp[h,rN,rO,rF,rG,sw,tk,zH])<;>try omega|refine Xg ?_|omega)
     exact LJ.i (i+1) rfl (by rw[← e1]) rfl rfl l4
  ·have e:i=l.length:=by omega
   subst e
   simp
   rw[aC (by omega),py KJ.symm]
