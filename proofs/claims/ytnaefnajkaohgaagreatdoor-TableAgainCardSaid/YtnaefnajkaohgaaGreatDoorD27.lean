/- Part 27 of the proof of skewer.skewerlaw15.TableAgain. -/
import Derived.Test.YtnaefnajkaohgaaGreatDoorD25
import Derived.Test.YtnaefnajkaohgaaGreatDoorD26
set_option linter.all false
namespace Go.Proofs.YtnaefnajkaohgaaGreatDoor
open Go Go.AL Classical
set_option maxRecDepth 10000
set_option maxHeartbeats 8000000
@[irreducible] def fN(x:List Int):List D:=[dN 1 f1 x]
theorem oc(x:List Int):fN x = [dN 1 f1 x]:=by unfold fN;rfl
instance:Fl fN 1:=⟨fun x=>by rw[oc];rfl,fun x=>by simp[oc,fm]⟩
theorem Ru(a b:List (List Int))(x:List Int)(h:x≠[]):cl fN a++dI x::cl fN b=cl fN (a++x::b):=by
 rw[← yX,mH,oc]
 cases x with
 | nil=>exact absurd rfl h
 | cons y r=>rfl
theorem LZ(a b:List (List Int)):cl fN a++D.emp::cl fN b=cl fN (a ++ []::b):=by
 rw[← yX,mH,oc];rfl
theorem abO(n:Nat):List.replicate n D.emp=cl fN (List.replicate n []):=by
 rw[← AZ,oc]
 simp[dN]
def qd(l:List Pos)(n:Nat):List (Value×D):=(upto n).map fun j=>(.string (lC (gt l j)),.i j)
@[simp] theorem amO(q:Nat→Bool)(n m:Nat)(l:List Pos):(List.map ((List.filter q) ∘ fun x:Value×D=>gE n x.2) (qd l m)).flatten = []:=
 flatten_nil fun a ha=>by
  obtain⟨j,_,rfl⟩:=av.1 ha
  rfl
@[simp] theorem alL(ρ:Nat→Option Nat)(H:U)(m:Nat)(l:List Pos):(qd l m).map (fun x=>(x.1,eS ρ H 40 x.2))=qd l m:=by
 rw[qd,cd]
 exact aj fun j _=>by simp
theorem O0{α:Type}{f:α→ByteArray}{v:α→D}{k:ByteArray}{d:D}:∀ {l:List α},(∀ x∈l,k≠f x)→kl (l.map fun x=>((.string (f x):Value),v x)) (.string k) d=(l.map fun x=>((.string (f x):Value),v x)) ++ [(.string k,d)]
 | [],_=>by simp[kl]
 | a::l,h=>by
  rw[List.map_cons,kl,Fs,O0 fun x hx=>h x (by simp[hx])]
  simp[h a (by simp)]
theorem OX{α:Type}{f:α→ByteArray}{v:α→D}{x:α}:∀ {l:List α},x∈l→(∀ y∈l,f x=f y→y=x)→ny (l.map fun x=>((.string (f x):Value),v x)) (.string (f x))=some (v x)
 | a::l,hx,h=>by
  rw[List.map_cons,ny,Fs]
  by_cases e:f x=f a
  ·have:=h a (by simp) e
   subst this;simp
  ·have kj:x∈l:=(au.1 hx).resolve_left fun e2=>e (by rw[e2])
   rw[OX kj fun y hy=>h y (by simp[hy])]
   simp[e]
section
variable{g:eO}(hg:fi g){l:List Pos}(hl:∀ p∈l,fF g p)(hs:iZ l)
include hg hl hs
theorem On{i j:Int}(i0:0≤i)(i1:i<l.length)(j0:0≤j)(j1:j<l.length)(h:lC (gt l i)=lC (gt l j)):i=j:=
 hs.inj i0 i1 j0 j1 (Oo hg (hl _ (eY i0 i1)) (hl _ (eY j0 j1)) h)
theorem WR{i:Int}(i0:0≤i)(i1:i<l.length):kl (qd l i.toNat) (.string (lC (gt l i))) (.i i)=qd l (i+1).toNat:=by
 unfold qd
 rw[O0 (f:=fun j=>lC (gt l j)) (fun j hj e=>?_),qF i0,List.map_append]
 ·rfl
 ·rw[pS]at hj
  have:=On hg hl hs i0 i1 hj.1 (by omega) e
  omega
theorem OW{q:Pos}(hq:q∈l):ny (qd l l.length) (.string (lC q))=some (.i (nK l q)):=by
 obtain⟨h0,h1,h2⟩:=zk hq
 have:=OX (f:=fun j=>lC (gt l j)) (v:=fun j=>D.i j) (x:=nK l q) (l:=upto l.length) (pS.2 ⟨h0,h1⟩) (fun y hy e=>by
  rw[pS]at hy
  exact(On hg hl hs h0 h1 hy.1 hy.2 e).symm)
 rw[h2]at this
 exact this
end
attribute [local simp] abO
theorem f52(g:eO)(hg:fi g)(l:List Pos)(hc:p5 g l)(h0:0<l.length):Wf T 52 [dG g,fW l] [] (Is (.tup [.sl 1 ((fy g l).map fN),.i 0])):=by
 have hl:=hc.ok
 have hs:=hc.wg
 have h9:=hc.len
 have hb:=hg.gV.size
 refine Yz yy (gH 87 [3] yy.body) ?_
 simp[yy,gH,iJ,kU,kX,lr,jN]
 refine Yc (f98 g hg) ?_
 simp
 (with_reducible repeat' first|refine Xk ?_<;>try simp|refine Xs ?_ ?_<;>intro h<;>(try intro h')<;>(try simp[h])<;>(try omega)|refine Xg ?_|omega)
 refine Yr (f99 g hg l hl (by omega)) ?_
 simp
 (with_reducible repeat' first|refine Xk ?_<;>try simp|refine Xs ?_ ?_<;>intro h<;>(try intro h')<;>(try simp[h])<;>(try omega)|refine Xg ?_|omega)
 refine Yc (f100 l (by omega) (fun p hp=>(hl p hp).small hg) hs) ?_
 simp
 (with_reducible repeat' first|refine Xk ?_<;>try simp|refine Xs ?_ ?_<;>intro h<;>(try intro h')<;>(try simp[h])<;>(try omega)|refine Xg ?_|omega)
 refine eW.e (0:Int) (fun y=>[(1,fW l),(2,.ptr 0 0 0),(7,.omap 1),(37,fW l),(38,.i l.length),(39,.i y)]) (fun y=>[.row 41 0 g.cells,.map .str (qd l y.toNat)]) (fun y=>0≤y∧y≤l.length) (fun y=>(l.length-y).toNat) ?_ ?_
 ·simp
 rintro i ⟨i0,i1⟩
 by_cases hi:i<l.length
 ·have hp:=hl _ (eY i0 hi)
  have EY:=hp.size
  simp[hi]
  (with_reducible repeat' first|refine Xk ?_<;>try simp|refine Xs ?_ ?_<;>intro h<;>(try intro h')<;>(try simp[h])<;>(try omega)|refine Xg ?_|omega)
  refine Yc (f101 (gt l i) (by omega) (xB hg hp)) ?_
  simp
  simp[WR hg hl hs i0 hi]
  (with_reducible repeat' first|refine Xk ?_<;>try simp|refine Xs ?_ ?_<;>intro h<;>(try intro h')<;>(try simp[h])<;>(try omega)|refine Xg ?_|omega)
  refine LJ.e (i+1) ?_
  exact⟨by omega,by omega,by omega⟩
 ·have e:i=l.length:=by omega
  subst e
  have HU:(fy g l).length=l.length:=by simp[fy]
  simp
  (with_reducible repeat' first|refine Xk ?_<;>try simp|refine Xs ?_ ?_<;>intro h<;>(try intro h')<;>(try simp[h])<;>(try omega)|refine Xg ?_|omega)
  refine eW.e (0:Int) (fun y=>[(2,.ptr 0 0 0),(7,.omap 1),(10,.eN 2 0 1 0 l.length),(52,fW l),(53,.i l.length),(54,.i y)]) (fun y=>[.row 41 0 g.cells,.map .str (qd l l.length),.row 33 0 (cl fN ((fy g l).take y.toNat++List.replicate (l.length-y.toNat) []))]) (fun y=>0≤y∧y≤l.length) (fun y=>(l.length-y).toNat) ?_ ?_
  ·simp
  rintro i ⟨i0,i1⟩
  by_cases hi:i<l.length
  ·have hp:=hl _ (eY i0 hi)
   obtain⟨n1,n2⟩:=ue hc i0 hi
   have re:∀ q∈gM g (gt l i),q∈l:=fun q hq=>hc.cl _ (eY i0 hi) q (vL.1 hq)
   have UA:=FJ hg hp
   simp[hi]
   (with_reducible repeat' first|refine Xk ?_<;>try simp|refine Xs ?_ ?_<;>intro h<;>(try intro h')<;>(try simp[h])<;>(try omega)|refine Xg ?_|omega)
   refine Yc (f26 g hg (gt l i) hp) ?_
   simp
   have fR:cl fN ((fy g l).take i.toNat++List.replicate (l.length-i.toNat) [])=cl fN ((fy g l).take i.toNat) ++ .emp::cl fN (List.replicate (l.length-(i+1).toNat) []):=by
    have hR:List.replicate (l.length-i.toNat) ([]:List Int) = []::List.replicate (l.length-(i+1).toNat) []:=by
     rw[← bJ];congr 1;omega
    rw[hR,LZ]
   have Nb:(fy g l).take (i+1).toNat=(fy g l).take i.toNat ++ [gt (fy g l) i]:=gx i0 (by omega)
   have Tt:gt (fy g l) i = []→cl fN ((fy g l).take i.toNat) ++ .emp::cl fN (List.replicate (l.length-(i+1).toNat) [])=cl fN ((fy g l).take (i+1).toNat++List.replicate (l.length-(i+1).toNat) []):=fun e=>by
    rw[LZ,Nb,e];simp
   have zr:gt (fy g l) i≠[]→cl fN ((fy g l).take i.toNat)++dI (gt (fy g l) i)::cl fN (List.replicate (l.length-(i+1).toNat) [])=cl fN ((fy g l).take (i+1).toNat++List.replicate (l.length-(i+1).toNat) []):=fun e=>by
    rw[Ru _ _ _ e,Nb];simp
   have tE:(cl fN ((fy g l).take i.toNat)).length=i.toNat:=by rw[yY,aT];omega
   have pO:∀ (ρ:Nat→Option Nat) (H:U) (k:Nat),(cl fN ((fy g l).take i.toNat)).map (eS ρ H k)=cl fN ((fy g l).take i.toNat):=fun ρ H k=>uc (qb _)
   have pP:∀ (ρ:Nat→Option Nat) (H:U) (k:Nat),(cl fN (List.replicate (l.length-(i+1).toNat) [])).map (eS ρ H k)=cl fN (List.replicate (l.length-(i+1).toNat) []):=fun ρ H k=>uc (qb _)
   have pJ:∀ (q:Nat→Bool) (n:Nat),(List.map ((List.filter q) ∘ gE n) (cl fN ((fy g l).take i.toNat))).flatten = []:=fun q n=>flatten_nil fun a ha=>by
    show List.filter q (gE n a) = []
    rw[Be n (jX (qb _) a ha)];rfl
   have pK:∀ (q:Nat→Bool) (n:Nat),(List.map ((List.filter q) ∘ gE n) (cl fN (List.replicate (l.length-(i+1).toNat) []))).flatten = []:=fun q n=>flatten_nil fun a ha=>by
    show List.filter q (gE n a) = []
    rw[Be n (jX (qb _) a ha)];rfl
   have qg:(gt (fy g l) i).length=(gM g (gt l i)).length:=by rw[n1,List.length_map]
   have hK:∀ j:Int,0≤j→j<(gM g (gt l i)).length→gt (gt (fy g l) i) j=nK l (gt (gM g (gt l i)) j):=fun j j0 j1=>by
    rw[n1,nL j0 (by rw[List.length_map];exact j1),nL j0 j1,et]
   generalize cl fN ((fy g l).take i.toNat)=A at *
   generalize hRR:cl fN (List.replicate (l.length-(i+1).toNat) [])=R at *
   have hG:∀ (d:D) (r:List D),(A++d::r)[i.toNat]? = some d:=fun d r=>by rw[ak (by omega),tE];simp
   have hT:∀ (d:D) (r:List D),(A++d::r).take i.toNat=A:=fun d r=>by rw[bI (by omega),aH (by omega)]
   have wY:∀ (d:D) (r:List D),(A++d::r).drop (i.toNat+1)=r:=fun d r=>by rw[List.drop_append,bp (by omega),tE];simp
   have hLn:∀ (d:D),i.toNat<(A++d::R).length:=fun d=>by simp;omega
   refine eW.e (0:Int) (fun y=>[(2,.ptr 0 0 0),(7,.omap 1),(10,.eN 2 0 1 0 l.length),(11,.i i),(52,fW l),(53,.i l.length),(54,.i i),(61,dN 5 Pos.cells (gM g (gt l i))),(62,.i (gM g (gt l i)).length),(63,.i y)]) (fun y=>[.row 41 0 g.cells,.map .str (qd l l.length),.row 33 0 (A++(if y=0 then .emp else .eN 4 (y.toNat-1) 1 0 y.toNat)::R),.row 44 0 (gt l i).cells]++(if y=0 then []else [.row 3 (y.toNat-1) (cl f1 ((gt (fy g l) i).take y.toNat))])) (fun y=>0≤y∧y≤(gM g (gt l i)).length) (fun y=>((gM g (gt l i)).length-y).toNat) ?_ ?_
   ·simp
   rintro k ⟨k0,k1⟩
   by_cases hk:k<(gM g (gt l i)).length
   ·have hq:=re _ (eY k0 hk)
    have IU:=hl _ hq
    have E0:=IU.size
    by_cases hz:k=0
    ·subst hz
     rw[if_pos rfl,if_pos rfl]
     simp[hk]
     (with_reducible repeat' first|refine Xk ?_<;>try simp|refine Xs ?_ ?_<;>intro h<;>(try intro h')<;>(try simp[h])<;>(try omega)|refine Xg ?_|omega)
     refine Yc (f101 (gt (gM g (gt l i)) 0) (by omega) (xB hg IU)) ?_
     simp
     simp[OW hg hl hs hq]
     (with_reducible repeat' first|refine Xk ?_<;>try simp|refine Xs ?_ ?_<;>intro h<;>(try intro h')<;>(try simp[h])<;>(try omega)|refine Xg ?_|omega)
     simp[hG,hT,wY,tE,pO,pP,pJ,pK,qg]
     (with_reducible repeat' first|refine Xk ?_<;>try simp[hG,hT,wY,tE,pO,pP,pJ,pK,qg]|refine Xs ?_ ?_<;>intro h<;>(try intro h')<;>(try simp[h,hG,hT,wY,tE,pO,pP,pJ,pK,qg])<;>(try omega)|refine Xg ?_|omega)
     have t1:(gt (fy g l) i).take 1 = [nK l (gt (gM g (gt l i)) 0)]:=by
      have:=gx (l:=gt (fy g l) i) (n:=0) (by omega) (by omega)
      rw[hK 0 (by omega) (by omega)]at this
      exact this
     refine LJ.i (1:Int) (by first|rfl|simp[t1,gW]) (by first|rfl|simp[t1,gW]) rfl rfl ?_
     exact⟨by omega,by omega,by omega⟩
    ·rw[if_neg hz,if_neg hz]
     simp[hk]
     (with_reducible repeat' first|refine Xk ?_<;>try simp|refine Xs ?_ ?_<;>intro h<;>(try intro h')<;>(try simp[h])<;>(try omega)|refine Xg ?_|omega)
     refine Yc (f101 (gt (gM g (gt l i)) k) (by omega) (xB hg IU)) ?_
     simp
     simp[OW hg hl hs hq]
     (with_reducible repeat' first|refine Xk ?_<;>try simp|refine Xs ?_ ?_<;>intro h<;>(try intro h')<;>(try simp[h])<;>(try omega)|refine Xg ?_|omega)
     simp[hG,hT,wY,tE,pO,pP,pJ,pK,qg]
     (with_reducible repeat' first|refine Xk ?_<;>try simp[hG,hT,wY,tE,pO,pP,pJ,pK,qg]|refine Xs ?_ ?_<;>intro h<;>(try intro h')<;>(try simp[h,hG,hT,wY,tE,pO,pP,pJ,pK,qg])<;>(try omega)|refine Xg ?_|omega)
     have t2:(gt (fy g l) i).take (k.toNat+1)=(gt (fy g l) i).take k.toNat ++ [nK l (gt (gM g (gt l i)) k)]:=by
      have:=gx (l:=gt (fy g l) i) (n:=k) (by omega) (by omega)
      rw[hK k (by omega) (by omega),show(k+1).toNat=k.toNat+1 by omega]at this
      exact this
     refine LJ.i (k+1) (by first|rfl|simp[show ¬ (k+1=0)by omega,show(k+1).toNat=k.toNat+1 by omega,show k.toNat-1+1=k.toNat by omega,t2,dh]) (by first|rfl|simp[show ¬ (k+1=0)by omega,show(k+1).toNat=k.toNat+1 by omega,show k.toNat-1+1=k.toNat by omega,t2,dh]) rfl rfl ?_
     exact⟨by omega,by omega,by omega⟩
   ·by_cases hz:k=0
    ·have eK:gt (fy g l) i = []:=aC.1 (by omega)
     have e0:=Tt eK
     subst hz
     rw[if_pos rfl,if_pos rfl]
     simp[show ¬ 0<(gM g (gt l i)).length by omega,pO,pP,pJ,pK]
     (with_reducible repeat' first|refine Xk ?_<;>try simp[pO,pP,pJ,pK]|refine Xs ?_ ?_<;>intro h<;>(try intro h')<;>(try simp[h,pO,pP,pJ,pK])<;>(try omega)|refine Xg ?_|omega)
     exact LJ.i (i+1) rfl (by rw[← e0]) rfl rfl ⟨by omega,by omega,by omega⟩
    ·have eK:gt (fy g l) i≠[]:=fun e=>by rw[e]at qg;simp at qg;omega
     have e1:=zr eK
     have tk:(gt (fy g l) i).take k.toNat=gt (fy g l) i:=aH (by omega)
     rw[if_neg hz,if_neg hz]
     have xg:k.toNat=(gM g (gt l i)).length:=by omega
     simp[hk,pO,pP,pJ,pK,qg,tk,xg]
     (with_reducible repeat' first|refine Xk ?_<;>try simp[pO,pP,pJ,pK,qg,tk,xg]|refine Xs ?_ ?_<;>intro h<;>(try intro h')<;>(try simp[h,pO,pP,pJ,pK,qg,tk,xg])<;>(try omega)|refine Xg ?_|omega)
     exact LJ.i (i+1) rfl (by rw[← e1]) rfl rfl ⟨by omega,by omega,by omega⟩
  ·have e:i=l.length:=by omega
   subst e
   simp
   rw[aH (by omega),qW HU.symm]
