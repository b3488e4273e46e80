/- Part 29 of TableHurry. -/
import Derived.Test.YtnaefnajkaohgaaGreatDoorG27
import Derived.Test.YtnaefnajkaohgaaGreatDoorG28
set_option linter.all false
namespace Go.Proofs.YtnaefnajkaohgaaGreatDoor
open Go Go.AL Classical
set_option maxRecDepth 10000
set_option maxHeartbeats 8000000
@[irreducible] def fN(x:List Int):List D:=[dN 1 f1 x]
theorem vE(x:List Int):fN x = [dN 1 f1 x]:=by unfold fN;rfl
instance:Fl fN 1:=⟨fun x=>by rw[vE];rfl,fun x=>by simp[vE,eV]⟩
theorem O5(a b:List (List Int))(x:List Int)(h:x≠[]):cl fN a++dI x::cl fN b=cl fN (a++x::b):=by
 rw[← CD,nb,vE]
 cases x with
 | nil=>exact absurd rfl h
 | cons y r=>rfl
theorem JW(a b:List (List Int)):cl fN a++D.U::cl fN b=cl fN (a ++ []::b):=by
 rw[← CD,nb,vE];rfl
theorem Zh(n:Nat):List.replicate n D.U=cl fN (List.replicate n []):=by
 rw[← zy,vE]
 simp[dN]
def pk(l:List Pos)(n:Nat):List (Value×D):=(upto n).map fun j=>(.string (kS (gt l j)),.i j)
@[simp] theorem ake(q:Nat→Bool)(n m:Nat)(l:List Pos):(List.map ((List.filter q) ∘ fun x:Value×D=>gD n x.2) (pk l m)).flatten = []:=
 flatten_nil fun a ha=>by
  obtain⟨j,_,rfl⟩:=aw.1 ha
  rfl
@[simp] theorem ajb(ρ:Nat→Option Nat)(H:et)(m:Nat)(l:List Pos):(pk l m).map (fun x=>(x.1,eC ρ H 40 x.2))=pk l m:=by
 rw[pk,cD]
 exact ak fun j _=>by simp
theorem MP{α:Type}{f:α→ByteArray}{v:α→D}{k:ByteArray}{d:D}:∀ {l:List α},(∀ x∈l,k≠f x)→kN (l.map fun x=>((.string (f x):Value),v x)) (.string k) d=(l.map fun x=>((.string (f x):Value),v x)) ++ [(.string k,d)]
 | [],_=>by simp[kN]
 | a::l,h=>by
  rw[List.map_cons,kN,DQ,MP fun x hx=>h x (by simp[hx])]
  simp[h a (by simp)]
theorem MN{α:Type}{f:α→ByteArray}{v:α→D}{x:α}:∀ {l:List α},x∈l→(∀ y∈l,f x=f y→y=x)→mz (l.map fun x=>((.string (f x):Value),v x)) (.string (f x))=some (v x)
 | a::l,hx,h=>by
  rw[List.map_cons,mz,DQ]
  by_cases e:f x=f a
  ·have:=h a (by simp) e
   subst this;simp
  ·have jO:x∈l:=(ax.1 hx).resolve_left fun e2=>e (by rw[e2])
   rw[MN jO fun y hy=>h y (by simp[hy])]
   simp[e]
section
variable{g:ey}(hg:eW g){l:List Pos}(hl:∀ p∈l,fo g p)(hs:iI l)
include hg hl hs
theorem Mr{i j:Int}(i0:0≤i)(i1:i<l.length)(j0:0≤j)(j1:j<l.length)(h:kS (gt l i)=kS (gt l j)):i=j:=
 hs.inj i0 i1 j0 j1 (Ms hg (hl _ (eH i0 i1)) (hl _ (eH j0 j1)) h)
theorem T6{i:Int}(i0:0≤i)(i1:i<l.length):kN (pk l i.toNat) (.string (kS (gt l i))) (.i i)=pk l (i+1).toNat:=by
 unfold pk
 rw[MP (f:=fun j=>kS (gt l j)) (fun j hj e=>?_),qJ i0,List.map_append]
 ·rfl
 ·rw[iR]at hj
  have:=Mr hg hl hs i0 i1 hj.1 (by omega) e
  omega
theorem ML{q:Pos}(hq:q∈l):mz (pk l l.length) (.string (kS q))=some (.i (jB l q)):=by
 obtain⟨h0,h1,h2⟩:=vF hq
 have:=MN (f:=fun j=>kS (gt l j)) (v:=fun j=>D.i j) (x:=jB l q) (l:=upto l.length) (iR.2 ⟨h0,h1⟩) (fun y hy e=>by
  rw[iR]at hy
  exact(Mr hg hl hs h0 h1 hy.1 hy.2 e).symm)
 rw[h2]at this
 exact this
end
attribute [local simp] Zh
theorem f52(g:ey)(hg:eW g)(l:List Pos)(hc:kF g l)(h0:0<l.length):Wf T 52 [dG g,fh l] [] (Is (.tup [.sl 1 ((eQ g l).map fN),.i 0])):=by
 have hl:=hc.ok
 have hs:=hc.rO
 have h9:=hc.len
 have hb:=hg.gH.size
 refine Yz xb (gu 87 [3] xb.body) ?_
 simp[xb,gu,iA,kG,kI,kR,jE]
 refine Yc (f98 g hg) ?_
 simp
 (with_reducible repeat' first|refine Xk ?_<;>try simp|refine Xs ?_ ?_<;>intro h<;>(try intro h')<;>(try simp[h])<;>(try omega)|refine Xg ?_|omega)
 refine Yr (f99 g hg l hl (by omega)) ?_
 simp
 (with_reducible repeat' first|refine Xk ?_<;>try simp|refine Xs ?_ ?_<;>intro h<;>(try intro h')<;>(try simp[h])<;>(try omega)|refine Xg ?_|omega)
 refine Yc (f100 l (by omega) (fun p hp=>(hl p hp).small hg) hs) ?_
 simp
 (with_reducible repeat' first|refine Xk ?_<;>try simp|refine Xs ?_ ?_<;>intro h<;>(try intro h')<;>(try simp[h])<;>(try omega)|refine Xg ?_|omega)
 refine eF.e (0:Int) (fun y=>[(1,fh l),(2,.ptr 0 0 0),(7,.fC 1),(37,fh l),(38,.i l.length),(39,.i y)]) (fun y=>[.row 41 0 g.cells,.map .str (pk l y.toNat)]) (fun y=>0≤y∧y≤l.length) (fun y=>(l.length-y).toNat) ?_ ?_
 ·simp
 rintro i ⟨i0,i1⟩
 by_cases hi:i<l.length
 ·have hp:=hl _ (eH i0 hi)
  have Dx:=hp.size
  simp[hi]
  (with_reducible repeat' first|refine Xk ?_<;>try simp|refine Xs ?_ ?_<;>intro h<;>(try intro h')<;>(try simp[h])<;>(try omega)|refine Xg ?_|omega)
  refine Yc (f101 (gt l i) (by omega) (wm hg hp)) ?_
  simp
  simp[T6 hg hl hs i0 hi]
  (with_reducible repeat' first|refine Xk ?_<;>try simp|refine Xs ?_ ?_<;>intro h<;>(try intro h')<;>(try simp[h])<;>(try omega)|refine Xg ?_|omega)
  refine LJ.e (i+1) ?_
  exact⟨by omega,by omega,by omega⟩
 ·have e:i=l.length:=by omega
  subst e
  have Ga:(eQ g l).length=l.length:=by simp[eQ]
  simp
  (with_reducible repeat' first|refine Xk ?_<;>try simp|refine Xs ?_ ?_<;>intro h<;>(try intro h')<;>(try simp[h])<;>(try omega)|refine Xg ?_|omega)
  refine eF.e (0:Int) (fun y=>[(2,.ptr 0 0 0),(7,.fC 1),(10,.eu 2 0 1 0 l.length),(52,fh l),(53,.i l.length),(54,.i y)]) (fun y=>[.row 41 0 g.cells,.map .str (pk l l.length),.row 33 0 (cl fN ((eQ g l).take y.toNat++List.replicate (l.length-y.toNat) []))]) (fun y=>0≤y∧y≤l.length) (fun y=>(l.length-y).toNat) ?_ ?_
  ·simp
  rintro i ⟨i0,i1⟩
  by_cases hi:i<l.length
  ·have hp:=hl _ (eH i0 hi)
   obtain⟨n1,n2⟩:=lT hc i0 hi
   have rr:∀ q∈fX g (gt l i),q∈l:=fun q hq=>hc.cl _ (eH i0 hi) q (s7.1 hq)
   have GD:=s6 hg hp
   simp[hi]
   (with_reducible repeat' first|refine Xk ?_<;>try simp|refine Xs ?_ ?_<;>intro h<;>(try intro h')<;>(try simp[h])<;>(try omega)|refine Xg ?_|omega)
   refine Yc (f26 g hg (gt l i) hp) ?_
   simp
   have fy:cl fN ((eQ g l).take i.toNat++List.replicate (l.length-i.toNat) [])=cl fN ((eQ g l).take i.toNat) ++ .U::cl fN (List.replicate (l.length-(i+1).toNat) []):=by
    have hR:List.replicate (l.length-i.toNat) ([]:List Int) = []::List.replicate (l.length-(i+1).toNat) []:=by
     rw[← bB];congr 1;omega
    rw[hR,JW]
   have K1:(eQ g l).take (i+1).toNat=(eQ g l).take i.toNat ++ [gt (eQ g l) i]:=gj i0 (by omega)
   have QR:gt (eQ g l) i = []→cl fN ((eQ g l).take i.toNat) ++ .U::cl fN (List.replicate (l.length-(i+1).toNat) [])=cl fN ((eQ g l).take (i+1).toNat++List.replicate (l.length-(i+1).toNat) []):=fun e=>by
    rw[JW,K1,e];simp
   have x5:gt (eQ g l) i≠[]→cl fN ((eQ g l).take i.toNat)++dI (gt (eQ g l) i)::cl fN (List.replicate (l.length-(i+1).toNat) [])=cl fN ((eQ g l).take (i+1).toNat++List.replicate (l.length-(i+1).toNat) []):=fun e=>by
    rw[O5 _ _ _ e,K1];simp
   have sF:(cl fN ((eQ g l).take i.toNat)).length=i.toNat:=by rw[tD,aP];omega
   have o3:∀ (ρ:Nat→Option Nat) (H:et) (k:Nat),(cl fN ((eQ g l).take i.toNat)).map (eC ρ H k)=cl fN ((eQ g l).take i.toNat):=fun ρ H k=>uI (qb _)
   have o4:∀ (ρ:Nat→Option Nat) (H:et) (k:Nat),(cl fN (List.replicate (l.length-(i+1).toNat) [])).map (eC ρ H k)=cl fN (List.replicate (l.length-(i+1).toNat) []):=fun ρ H k=>uI (qb _)
   have oT:∀ (q:Nat→Bool) (n:Nat),(List.map ((List.filter q) ∘ gD n) (cl fN ((eQ g l).take i.toNat))).flatten = []:=fun q n=>flatten_nil fun a ha=>by
    show List.filter q (gD n a) = []
    rw[EW n (jM (qb _) a ha)];rfl
   have oU:∀ (q:Nat→Bool) (n:Nat),(List.map ((List.filter q) ∘ gD n) (cl fN (List.replicate (l.length-(i+1).toNat) []))).flatten = []:=fun q n=>flatten_nil fun a ha=>by
    show List.filter q (gD n a) = []
    rw[EW n (jM (qb _) a ha)];rfl
   have pr:(gt (eQ g l) i).length=(fX g (gt l i)).length:=by rw[n1,List.length_map]
   have hK:∀ j:Int,0≤j→j<(fX g (gt l i)).length→gt (gt (eQ g l) i) j=jB l (gt (fX g (gt l i)) j):=fun j j0 j1=>by
    rw[n1,lP j0 (by rw[List.length_map];exact j1),lP j0 j1,List.getElem_map]
   generalize cl fN ((eQ g l).take i.toNat)=A at *
   generalize hRR:cl fN (List.replicate (l.length-(i+1).toNat) [])=R at *
   have hG:∀ (d:D) (r:List D),(A++d::r)[i.toNat]? = some d:=fun d r=>by rw[aj (by omega),sF];simp
   have hT:∀ (d:D) (r:List D),(A++d::r).take i.toNat=A:=fun d r=>by rw[bA (by omega),aG (by omega)]
   have vL:∀ (d:D) (r:List D),(A++d::r).drop (i.toNat+1)=r:=fun d r=>by rw[List.drop_append,aZ (by omega),sF];simp
   have hLn:∀ (d:D),i.toNat<(A++d::R).length:=fun d=>by simp;omega
   refine eF.e (0:Int) (fun y=>[(2,.ptr 0 0 0),(7,.fC 1),(10,.eu 2 0 1 0 l.length),(11,.i i),(52,fh l),(53,.i l.length),(54,.i i),(61,dN 5 Pos.cells (fX g (gt l i))),(62,.i (fX g (gt l i)).length),(63,.i y)]) (fun y=>[.row 41 0 g.cells,.map .str (pk l l.length),.row 33 0 (A++(if y=0 then .U else .eu 4 (y.toNat-1) 1 0 y.toNat)::R),.row 44 0 (gt l i).cells]++(if y=0 then []else [.row 3 (y.toNat-1) (cl f1 ((gt (eQ g l) i).take y.toNat))])) (fun y=>0≤y∧y≤(fX g (gt l i)).length) (fun y=>((fX g (gt l i)).length-y).toNat) ?_ ?_
   ·simp
   rintro k ⟨k0,k1⟩
   by_cases hk:k<(fX g (gt l i)).length
   ·have hq:=rr _ (eH k0 hk)
    have GU:=hl _ hq
    have Dy:=GU.size
    by_cases hz:k=0
    ·subst hz
     rw[if_pos rfl,if_pos rfl]
     simp[hk]
     (with_reducible repeat' first|refine Xk ?_<;>try simp|refine Xs ?_ ?_<;>intro h<;>(try intro h')<;>(try simp[h])<;>(try omega)|refine Xg ?_|omega)
     refine Yc (f101 (gt (fX g (gt l i)) 0) (by omega) (wm hg GU)) ?_
     simp
     simp[ML hg hl hs hq]
     (with_reducible repeat' first|refine Xk ?_<;>try simp|refine Xs ?_ ?_<;>intro h<;>(try intro h')<;>(try simp[h])<;>(try omega)|refine Xg ?_|omega)
     simp[hG,hT,vL,sF,o3,o4,oT,oU,pr]
     (with_reducible repeat' first|refine Xk ?_<;>try simp[hG,hT,vL,sF,o3,o4,oT,oU,pr]|refine Xs ?_ ?_<;>intro h<;>(try intro h')<;>(try simp[h,hG,hT,vL,sF,o3,o4,oT,oU,pr])<;>(try omega)|refine Xg ?_|omega)
     have t1:(gt (eQ g l) i).take 1 = [jB l (gt (fX g (gt l i)) 0)]:=by
      have:=gj (l:=gt (eQ g l) i) (n:=0) (by omega) (by omega)
      rw[hK 0 (by omega) (by omega)]at this
      exact this
     refine LJ.i (1:Int) (by first|rfl|simp[t1,gZ]) (by first|rfl|simp[t1,gZ]) rfl rfl ?_
     exact⟨by omega,by omega,by omega⟩
    ·rw[if_neg hz,if_neg hz]
     simp[hk]
     (with_reducible repeat' first|refine Xk ?_<;>try simp|refine Xs ?_ ?_<;>intro h<;>(try intro h')<;>(try simp[h])<;>(try omega)|refine Xg ?_|omega)
     refine Yc (f101 (gt (fX g (gt l i)) k) (by omega) (wm hg GU)) ?_
     simp
     simp[ML hg hl hs hq]
     (with_reducible repeat' first|refine Xk ?_<;>try simp|refine Xs ?_ ?_<;>intro h<;>(try intro h')<;>(try simp[h])<;>(try omega)|refine Xg ?_|omega)
     simp[hG,hT,vL,sF,o3,o4,oT,oU,pr]
     (with_reducible repeat' first|refine Xk ?_<;>try simp[hG,hT,vL,sF,o3,o4,oT,oU,pr]|refine Xs ?_ ?_<;>intro h<;>(try intro h')<;>(try simp[h,hG,hT,vL,sF,o3,o4,oT,oU,pr])<;>(try omega)|refine Xg ?_|omega)
     have t2:(gt (eQ g l) i).take (k.toNat+1)=(gt (eQ g l) i).take k.toNat ++ [jB l (gt (fX g (gt l i)) k)]:=by
      have:=gj (l:=gt (eQ g l) i) (n:=k) (by omega) (by omega)
      rw[hK k (by omega) (by omega),show(k+1).toNat=k.toNat+1 by omega]at this
      exact this
     refine LJ.i (k+1) (by first|rfl|simp[show ¬ (k+1=0)by omega,show(k+1).toNat=k.toNat+1 by omega,show k.toNat-1+1=k.toNat by omega,t2,cT]) (by first|rfl|simp[show ¬ (k+1=0)by omega,show(k+1).toNat=k.toNat+1 by omega,show k.toNat-1+1=k.toNat by omega,t2,cT]) rfl rfl ?_
     exact⟨by omega,by omega,by omega⟩
   ·by_cases hz:k=0
    ·have eK:gt (eQ g l) i = []:=aA.1 (by omega)
     have e0:=QR eK
     subst hz
     rw[if_pos rfl,if_pos rfl]
     simp[show ¬ 0<(fX g (gt l i)).length by omega,o3,o4,oT,oU]
     (with_reducible repeat' first|refine Xk ?_<;>try simp[o3,o4,oT,oU]|refine Xs ?_ ?_<;>intro h<;>(try intro h')<;>(try simp[h,o3,o4,oT,oU])<;>(try omega)|refine Xg ?_|omega)
     exact LJ.i (i+1) rfl (by rw[← e0]) rfl rfl ⟨by omega,by omega,by omega⟩
    ·have eK:gt (eQ g l) i≠[]:=fun e=>by rw[e]at pr;simp at pr;omega
     have e1:=x5 eK
     have tk:(gt (eQ g l) i).take k.toNat=gt (eQ g l) i:=aG (by omega)
     rw[if_neg hz,if_neg hz]
     have vV:k.toNat=(fX g (gt l i)).length:=by omega
     simp[hk,o3,o4,oT,oU,pr,tk,vV]
     (with_reducible repeat' first|refine Xk ?_<;>try simp[o3,o4,oT,oU,pr,tk,vV]|refine Xs ?_ ?_<;>intro h<;>(try intro h')<;>(try simp[h,o3,o4,oT,oU,pr,tk,vV])<;>(try omega)|refine Xg ?_|omega)
     exact LJ.i (i+1) rfl (by rw[← e1]) rfl rfl ⟨by omega,by omega,by omega⟩
  ·have e:i=l.length:=by omega
   subst e
   simp
   rw[aG (by omega),q9 Ga.symm]
