/- Part 29 of the proof of skewer.skewerlaw15.TableZero. -/
import Derived.Test.YtnaefnajkaohgaaGreatDoorF27
import Derived.Test.YtnaefnajkaohgaaGreatDoorF28
set_option linter.all false
namespace Go.Proofs.YtnaefnajkaohgaaGreatDoor
open Go Go.AL Classical
set_option maxRecDepth 10000
set_option maxHeartbeats 8000000
@[irreducible] def fN(x:List Int):List D:=[dN 1 f1 x]
theorem vq(x:List Int):fN x = [dN 1 f1 x]:=by unfold fN;rfl
instance:Fl fN 1:=⟨fun x=>by rw[vq];rfl,fun x=>by simp[vq,eT]⟩
theorem OI(a b:List (List Int))(x:List Int)(h:x≠[]):cl fN a++dI x::cl fN b=cl fN (a++x::b):=by
 rw[← Cr,mU,vq]
 cases x with
 | nil=>exact absurd rfl h
 | cons y r=>rfl
theorem JG(a b:List (List Int)):cl fN a++D.emp::cl fN b=cl fN (a ++ []::b):=by
 rw[← Cr,mU,vq];rfl
theorem YZ(n:Nat):List.replicate n D.emp=cl fN (List.replicate n []):=by
 rw[← zm,vq]
 simp[dN]
def o8(l:List Pos)(n:Nat):List (Value×D):=(upto n).map fun j=>(.string (kM (gt l j)),.i j)
@[simp] theorem ajY(q:Nat→Bool)(n m:Nat)(l:List Pos):(List.map ((List.filter q) ∘ fun x:Value×D=>gx n x.2) (o8 l m)).flatten = []:=
 flatten_nil fun a ha=>by
  obtain⟨j,_,rfl⟩:=aw.1 ha
  rfl
@[simp] theorem aiV(ρ:Nat→Option Nat)(H:U)(m:Nat)(l:List Pos):(o8 l m).map (fun x=>(x.1,eB ρ H 40 x.2))=o8 l m:=by
 rw[o8,cD]
 exact ak fun j _=>by simp
theorem Mt{α:Type}{f:α→ByteArray}{v:α→D}{k:ByteArray}{d:D}:∀ {l:List α},(∀ x∈l,k≠f x)→kG (l.map fun x=>((.string (f x):Value),v x)) (.string k) d=(l.map fun x=>((.string (f x):Value),v x)) ++ [(.string k,d)]
 | [],_=>by simp[kG]
 | a::l,h=>by
  rw[List.map_cons,kG,DG,Mt fun x hx=>h x (by simp[hx])]
  simp[h a (by simp)]
theorem Mr{α:Type}{f:α→ByteArray}{v:α→D}{x:α}:∀ {l:List α},x∈l→(∀ y∈l,f x=f y→y=x)→mq (l.map fun x=>((.string (f x):Value),v x)) (.string (f x))=some (v x)
 | a::l,hx,h=>by
  rw[List.map_cons,mq,DG]
  by_cases e:f x=f a
  ·have:=h a (by simp) e
   subst this;simp
  ·have jH:x∈l:=(ax.1 hx).resolve_left fun e2=>e (by rw[e2])
   rw[Mr jH fun y hy=>h y (by simp[hy])]
   simp[e]
section
variable{g:ew}(hg:eU g){l:List Pos}(hl:∀ p∈l,fj g p)(hs:iE l)
include hg hl hs
theorem L6{i j:Int}(i0:0≤i)(i1:i<l.length)(j0:0≤j)(j1:j<l.length)(h:kM (gt l i)=kM (gt l j)):i=j:=
 hs.inj i0 i1 j0 j1 (L7 hg (hl _ (eI i0 i1)) (hl _ (eI j0 j1)) h)
theorem TM{i:Int}(i0:0≤i)(i1:i<l.length):kG (o8 l i.toNat) (.string (kM (gt l i))) (.i i)=o8 l (i+1).toNat:=by
 unfold o8
 rw[Mt (f:=fun j=>kM (gt l j)) (fun j hj e=>?_),qz i0,List.map_append]
 ·rfl
 ·rw[iO]at hj
  have:=L6 hg hl hs i0 i1 hj.1 (by omega) e
  omega
theorem Mq{q:Pos}(hq:q∈l):mq (o8 l l.length) (.string (kM q))=some (.i (lJ l q)):=by
 obtain⟨h0,h1,h2⟩:=xL hq
 have:=Mr (f:=fun j=>kM (gt l j)) (v:=fun j=>D.i j) (x:=lJ l q) (l:=upto l.length) (iO.2 ⟨h0,h1⟩) (fun y hy e=>by
  rw[iO]at hy
  exact(L6 hg hl hs h0 h1 hy.1 hy.2 e).symm)
 rw[h2]at this
 exact this
end
attribute [local simp] YZ
theorem f52(g:ew)(hg:eU g)(l:List Pos)(hc:ku g l)(h0:0<l.length):Wf T 52 [dG g,fe l] [] (Is (.tup [.sl 1 ((eO g l).map fN),.i 0])):=by
 have hl:=hc.ok
 have hs:=hc.sW
 have h9:=hc.len
 have hb:=hg.gF.size
 refine Yz wU (gj 87 [3] wU.body) ?_
 simp[wU,gj,iw,ky,kA,kK,jy]
 refine Yc (f98 g hg) ?_
 simp
 (with_reducible repeat' first|refine Xk ?_<;>try simp|refine Xs ?_ ?_<;>intro h<;>(try intro h')<;>(try simp[h])<;>(try omega)|refine Xg ?_|omega)
 refine Yr (f99 g hg l hl (by omega)) ?_
 simp
 (with_reducible repeat' first|refine Xk ?_<;>try simp|refine Xs ?_ ?_<;>intro h<;>(try intro h')<;>(try simp[h])<;>(try omega)|refine Xg ?_|omega)
 refine Yc (f100 l (by omega) (fun p hp=>(hl p hp).small hg) hs) ?_
 simp
 (with_reducible repeat' first|refine Xk ?_<;>try simp|refine Xs ?_ ?_<;>intro h<;>(try intro h')<;>(try simp[h])<;>(try omega)|refine Xg ?_|omega)
 refine eE.e (0:Int) (fun y=>[(1,fe l),(2,.ptr 0 0 0),(7,.omap 1),(37,fe l),(38,.i l.length),(39,.i y)]) (fun y=>[.row 41 0 g.cells,.map .str (o8 l y.toNat)]) (fun y=>0≤y∧y≤l.length) (fun y=>(l.length-y).toNat) ?_ ?_
 ·simp
 rintro i ⟨i0,i1⟩
 by_cases hi:i<l.length
 ·have hp:=hl _ (eI i0 hi)
  have Dk:=hp.size
  simp[hi]
  (with_reducible repeat' first|refine Xk ?_<;>try simp|refine Xs ?_ ?_<;>intro h<;>(try intro h')<;>(try simp[h])<;>(try omega)|refine Xg ?_|omega)
  refine Yc (f101 (gt l i) (by omega) (vW hg hp)) ?_
  simp
  simp[TM hg hl hs i0 hi]
  (with_reducible repeat' first|refine Xk ?_<;>try simp|refine Xs ?_ ?_<;>intro h<;>(try intro h')<;>(try simp[h])<;>(try omega)|refine Xg ?_|omega)
  refine LJ.e (i+1) ?_
  exact⟨by omega,by omega,by omega⟩
 ·have e:i=l.length:=by omega
  subst e
  have FY:(eO g l).length=l.length:=by simp[eO]
  simp
  (with_reducible repeat' first|refine Xk ?_<;>try simp|refine Xs ?_ ?_<;>intro h<;>(try intro h')<;>(try simp[h])<;>(try omega)|refine Xg ?_|omega)
  refine eE.e (0:Int) (fun y=>[(2,.ptr 0 0 0),(7,.omap 1),(10,.et 2 0 1 0 l.length),(52,fe l),(53,.i l.length),(54,.i y)]) (fun y=>[.row 41 0 g.cells,.map .str (o8 l l.length),.row 33 0 (cl fN ((eO g l).take y.toNat++List.replicate (l.length-y.toNat) []))]) (fun y=>0≤y∧y≤l.length) (fun y=>(l.length-y).toNat) ?_ ?_
  ·simp
  rintro i ⟨i0,i1⟩
  by_cases hi:i<l.length
  ·have hp:=hl _ (eI i0 hi)
   obtain⟨n1,n2⟩:=l6 hc i0 hi
   have tY:∀ q∈fV g (gt l i),q∈l:=fun q hq=>hc.cl _ (eI i0 hi) q (uw.1 hq)
   have Lb:=uv hg hp
   simp[hi]
   (with_reducible repeat' first|refine Xk ?_<;>try simp|refine Xs ?_ ?_<;>intro h<;>(try intro h')<;>(try simp[h])<;>(try omega)|refine Xg ?_|omega)
   refine Yc (f26 g hg (gt l i) hp) ?_
   simp
   have fu:cl fN ((eO g l).take i.toNat++List.replicate (l.length-i.toNat) [])=cl fN ((eO g l).take i.toNat) ++ .emp::cl fN (List.replicate (l.length-(i+1).toNat) []):=by
    have hR:List.replicate (l.length-i.toNat) ([]:List Int) = []::List.replicate (l.length-(i+1).toNat) []:=by
     rw[← bB];congr 1;omega
    rw[hR,JG]
   have KH:(eO g l).take (i+1).toNat=(eO g l).take i.toNat ++ [gt (eO g l) i]:=gg i0 (by omega)
   have Qw:gt (eO g l) i = []→cl fN ((eO g l).take i.toNat) ++ .emp::cl fN (List.replicate (l.length-(i+1).toNat) [])=cl fN ((eO g l).take (i+1).toNat++List.replicate (l.length-(i+1).toNat) []):=fun e=>by
    rw[JG,KH,e];simp
   have xQ:gt (eO g l) i≠[]→cl fN ((eO g l).take i.toNat)++dI (gt (eO g l) i)::cl fN (List.replicate (l.length-(i+1).toNat) [])=cl fN ((eO g l).take (i+1).toNat++List.replicate (l.length-(i+1).toNat) []):=fun e=>by
    rw[OI _ _ _ e,KH];simp
   have sn:(cl fN ((eO g l).take i.toNat)).length=i.toNat:=by rw[ti,aP];omega
   have oQ:∀ (ρ:Nat→Option Nat) (H:U) (k:Nat),(cl fN ((eO g l).take i.toNat)).map (eB ρ H k)=cl fN ((eO g l).take i.toNat):=fun ρ H k=>ur (pX _)
   have oR:∀ (ρ:Nat→Option Nat) (H:U) (k:Nat),(cl fN (List.replicate (l.length-(i+1).toNat) [])).map (eB ρ H k)=cl fN (List.replicate (l.length-(i+1).toNat) []):=fun ρ H k=>ur (pX _)
   have oK:∀ (q:Nat→Bool) (n:Nat),(List.map ((List.filter q) ∘ gx n) (cl fN ((eO g l).take i.toNat))).flatten = []:=fun q n=>flatten_nil fun a ha=>by
    show List.filter q (gx n a) = []
    rw[EK n (jF (pX _) a ha)];rfl
   have oL:∀ (q:Nat→Bool) (n:Nat),(List.map ((List.filter q) ∘ gx n) (cl fN (List.replicate (l.length-(i+1).toNat) []))).flatten = []:=fun q n=>flatten_nil fun a ha=>by
    show List.filter q (gx n a) = []
    rw[EK n (jF (pX _) a ha)];rfl
   have pb:(gt (eO g l) i).length=(fV g (gt l i)).length:=by rw[n1,List.length_map]
   have hK:∀ j:Int,0≤j→j<(fV g (gt l i)).length→gt (gt (eO g l) i) j=lJ l (gt (fV g (gt l i)) j):=fun j j0 j1=>by
    rw[n1,mc j0 (by rw[List.length_map];exact j1),mc j0 j1,List.getElem_map]
   generalize cl fN ((eO g l).take i.toNat)=A at *
   generalize hRR:cl fN (List.replicate (l.length-(i+1).toNat) [])=R at *
   have hG:∀ (d:D) (r:List D),(A++d::r)[i.toNat]? = some d:=fun d r=>by rw[aj (by omega),sn];simp
   have hT:∀ (d:D) (r:List D),(A++d::r).take i.toNat=A:=fun d r=>by rw[bA (by omega),aG (by omega)]
   have vz:∀ (d:D) (r:List D),(A++d::r).drop (i.toNat+1)=r:=fun d r=>by rw[List.drop_append,aZ (by omega),sn];simp
   have hLn:∀ (d:D),i.toNat<(A++d::R).length:=fun d=>by simp;omega
   refine eE.e (0:Int) (fun y=>[(2,.ptr 0 0 0),(7,.omap 1),(10,.et 2 0 1 0 l.length),(11,.i i),(52,fe l),(53,.i l.length),(54,.i i),(61,dN 5 Pos.cells (fV g (gt l i))),(62,.i (fV g (gt l i)).length),(63,.i y)]) (fun y=>[.row 41 0 g.cells,.map .str (o8 l l.length),.row 33 0 (A++(if y=0 then .emp else .et 4 (y.toNat-1) 1 0 y.toNat)::R),.row 44 0 (gt l i).cells]++(if y=0 then []else [.row 3 (y.toNat-1) (cl f1 ((gt (eO g l) i).take y.toNat))])) (fun y=>0≤y∧y≤(fV g (gt l i)).length) (fun y=>((fV g (gt l i)).length-y).toNat) ?_ ?_
   ·simp
   rintro k ⟨k0,k1⟩
   by_cases hk:k<(fV g (gt l i)).length
   ·have hq:=tY _ (eI k0 hk)
    have Gz:=hl _ hq
    have Dm:=Gz.size
    by_cases hz:k=0
    ·subst hz
     rw[if_pos rfl,if_pos rfl]
     simp[hk]
     (with_reducible repeat' first|refine Xk ?_<;>try simp|refine Xs ?_ ?_<;>intro h<;>(try intro h')<;>(try simp[h])<;>(try omega)|refine Xg ?_|omega)
     refine Yc (f101 (gt (fV g (gt l i)) 0) (by omega) (vW hg Gz)) ?_
     simp
     simp[Mq hg hl hs hq]
     (with_reducible repeat' first|refine Xk ?_<;>try simp|refine Xs ?_ ?_<;>intro h<;>(try intro h')<;>(try simp[h])<;>(try omega)|refine Xg ?_|omega)
     simp[hG,hT,vz,sn,oQ,oR,oK,oL,pb]
     (with_reducible repeat' first|refine Xk ?_<;>try simp[hG,hT,vz,sn,oQ,oR,oK,oL,pb]|refine Xs ?_ ?_<;>intro h<;>(try intro h')<;>(try simp[h,hG,hT,vz,sn,oQ,oR,oK,oL,pb])<;>(try omega)|refine Xg ?_|omega)
     have t1:(gt (eO g l) i).take 1 = [lJ l (gt (fV g (gt l i)) 0)]:=by
      have:=gg (l:=gt (eO g l) i) (n:=0) (by omega) (by omega)
      rw[hK 0 (by omega) (by omega)]at this
      exact this
     refine LJ.i (1:Int) (by first|rfl|simp[t1,gV]) (by first|rfl|simp[t1,gV]) rfl rfl ?_
     exact⟨by omega,by omega,by omega⟩
    ·rw[if_neg hz,if_neg hz]
     simp[hk]
     (with_reducible repeat' first|refine Xk ?_<;>try simp|refine Xs ?_ ?_<;>intro h<;>(try intro h')<;>(try simp[h])<;>(try omega)|refine Xg ?_|omega)
     refine Yc (f101 (gt (fV g (gt l i)) k) (by omega) (vW hg Gz)) ?_
     simp
     simp[Mq hg hl hs hq]
     (with_reducible repeat' first|refine Xk ?_<;>try simp|refine Xs ?_ ?_<;>intro h<;>(try intro h')<;>(try simp[h])<;>(try omega)|refine Xg ?_|omega)
     simp[hG,hT,vz,sn,oQ,oR,oK,oL,pb]
     (with_reducible repeat' first|refine Xk ?_<;>try simp[hG,hT,vz,sn,oQ,oR,oK,oL,pb]|refine Xs ?_ ?_<;>intro h<;>(try intro h')<;>(try simp[h,hG,hT,vz,sn,oQ,oR,oK,oL,pb])<;>(try omega)|refine Xg ?_|omega)
     have t2:(gt (eO g l) i).take (k.toNat+1)=(gt (eO g l) i).take k.toNat ++ [lJ l (gt (fV g (gt l i)) k)]:=by
      have:=gg (l:=gt (eO g l) i) (n:=k) (by omega) (by omega)
      rw[hK k (by omega) (by omega),show(k+1).toNat=k.toNat+1 by omega]at this
      exact this
     refine LJ.i (k+1) (by first|rfl|simp[show ¬ (k+1=0)by omega,show(k+1).toNat=k.toNat+1 by omega,show k.toNat-1+1=k.toNat by omega,t2,cT]) (by first|rfl|simp[show ¬ (k+1=0)by omega,show(k+1).toNat=k.toNat+1 by omega,show k.toNat-1+1=k.toNat by omega,t2,cT]) rfl rfl ?_
     exact⟨by omega,by omega,by omega⟩
   ·by_cases hz:k=0
    ·have eK:gt (eO g l) i = []:=aA.1 (by omega)
     have e0:=Qw eK
     subst hz
     rw[if_pos rfl,if_pos rfl]
     simp[show ¬ 0<(fV g (gt l i)).length by omega,oQ,oR,oK,oL]
     (with_reducible repeat' first|refine Xk ?_<;>try simp[oQ,oR,oK,oL]|refine Xs ?_ ?_<;>intro h<;>(try intro h')<;>(try simp[h,oQ,oR,oK,oL])<;>(try omega)|refine Xg ?_|omega)
     exact LJ.i (i+1) rfl (by rw[← e0]) rfl rfl ⟨by omega,by omega,by omega⟩
    ·have eK:gt (eO g l) i≠[]:=fun e=>by rw[e]at pb;simp at pb;omega
     have e1:=xQ eK
     have tk:(gt (eO g l) i).take k.toNat=gt (eO g l) i:=aG (by omega)
     rw[if_neg hz,if_neg hz]
     have vI:k.toNat=(fV g (gt l i)).length:=by omega
     simp[hk,oQ,oR,oK,oL,pb,tk,vI]
     (with_reducible repeat' first|refine Xk ?_<;>try simp[oQ,oR,oK,oL,pb,tk,vI]|refine Xs ?_ ?_<;>intro h<;>(try intro h')<;>(try simp[h,oQ,oR,oK,oL,pb,tk,vI])<;>(try omega)|refine Xg ?_|omega)
     exact LJ.i (i+1) rfl (by rw[← e1]) rfl rfl ⟨by omega,by omega,by omega⟩
  ·have e:i=l.length:=by omega
   subst e
   simp
   rw[aG (by omega),qU FY.symm]
