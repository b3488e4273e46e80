/- Part 26 of the proof of skewer.skewerlaw15.TableValues. -/
import Derived.Test.YtnaefnajkaohgaaGreatDoorE24
import Derived.Test.YtnaefnajkaohgaaGreatDoorE25
set_option linter.all false
namespace Go.Proofs.YtnaefnajkaohgaaGreatDoor
open Go Go.AL Classical
set_option maxRecDepth 10000
set_option maxHeartbeats 8000000
@[irreducible] def fN(x:List Int):List D:=[dN 1 f1 x]
theorem oa(x:List Int):fN x = [dN 1 f1 x]:=by unfold fN;rfl
instance:Fl fN 1:=⟨fun x=>by rw[oa];rfl,fun x=>by simp[oa,fy]⟩
theorem Sp(a b:List (List Int))(x:List Int)(h:x≠[]):cl fN a++dI x::cl fN b=cl fN (a++x::b):=by
 rw[← zJ,ni,oa]
 cases x with
 | nil=>exact absurd rfl h
 | cons y r=>rfl
theorem MA(a b:List (List Int)):cl fN a++D.emp::cl fN b=cl fN (a ++ []::b):=by
 rw[← zJ,ni,oa];rfl
theorem adf(n:Nat):List.replicate n D.emp=cl fN (List.replicate n []):=by
 rw[← BE,oa]
 simp[dN]
def qC(l:List Pos)(n:Nat):List (Value×D):=(upto n).map fun j=>(.string (l5 (gt l j)),.i j)
@[simp] theorem aog(q:Nat→Bool)(n m:Nat)(l:List Pos):(List.map ((List.filter q) ∘ fun x:Value×D=>gG n x.2) (qC l m)).flatten = []:=
 flatten_nil fun a ha=>by
  obtain⟨j,_,rfl⟩:=ao.1 ha
  rfl
@[simp] theorem anc(ρ:Nat→Option Nat)(H:U)(m:Nat)(l:List Pos):(qC l m).map (fun x=>(x.1,eZ ρ H 40 x.2))=qC l m:=by
 rw[qC,bA]
 exact aj fun j _=>by simp
theorem PK{α:Type}{f:α→ByteArray}{v:α→D}{k:ByteArray}{d:D}:∀ {l:List α},(∀ x∈l,k≠f x)→jA (l.map fun x=>((.string (f x):Value),v x)) (.string k) d=(l.map fun x=>((.string (f x):Value),v x)) ++ [(.string k,d)]
 | [],_=>by simp[jA]
 | a::l,h=>by
  rw[List.map_cons,jA,Gf,PK fun x hx=>h x (by simp[hx])]
  simp[h a (by simp)]
theorem PH{α:Type}{f:α→ByteArray}{v:α→D}{x:α}:∀ {l:List α},x∈l→(∀ y∈l,f x=f y→y=x)→kI (l.map fun x=>((.string (f x):Value),v x)) (.string (f x))=some (v x)
 | a::l,hx,h=>by
  rw[List.map_cons,kI,Gf]
  by_cases e:f x=f a
  ·have:=h a (by simp) e
   subst this;simp
  ·have kf:x∈l:=(aq.1 hx).resolve_left fun e2=>e (by rw[e2])
   rw[PH kf fun y hy=>h y (by simp[hy])]
   simp[e]
section
variable{g:eU}(hg:fr g){l:List Pos}(hl:∀ p∈l,fR g p)(hs:jn l)
include hg hl hs
theorem O9{i j:Int}(i0:0≤i)(i1:i<l.length)(j0:0≤j)(j1:j<l.length)(h:l5 (gt l i)=l5 (gt l j)):i=j:=
 hs.inj i0 i1 j0 j1 (O' hg (hl _ (ff i0 i1)) (hl _ (ff j0 j1)) h)
theorem Yi{i:Int}(i0:0≤i)(i1:i<l.length):jA (qC l i.toNat) (.string (l5 (gt l i))) (.i i)=qC l (i+1).toNat:=by
 unfold qC
 rw[PK (f:=fun j=>l5 (gt l j)) (fun j hj e=>?_),q8 i0,List.map_append]
 ·rfl
 ·rw[pg]at hj
  have:=O9 hg hl hs i0 i1 hj.1 (by omega) e
  omega
theorem PG{q:Pos}(hq:q∈l):kI (qC l l.length) (.string (l5 q))=some (.i (oc l q)):=by
 obtain⟨h0,h1,h2⟩:=z' hq
 have:=PH (f:=fun j=>l5 (gt l j)) (v:=fun j=>D.i j) (x:=oc l q) (l:=upto l.length) (pg.2 ⟨h0,h1⟩) (fun y hy e=>by
  rw[pg]at hy
  exact(O9 hg hl hs h0 h1 hy.1 hy.2 e).symm)
 rw[h2]at this
 exact this
end
attribute [local simp] adf
theorem f52(g:eU)(hg:fr g)(l:List Pos)(hc:mQ g l)(h0:0<l.length):Wf T 52 [dG g,gb l] [] (Is (.tup [.sl 1 ((fE g l).map fN),.i 0])):=by
 have hl:=hc.ok
 have hs:=hc.tu
 have h9:=hc.len
 have hb:=hg.ib.size
 refine Yz zf (gY 87 [3] zf.body) ?_
 simp[zf,gY,jc,lW,lX,me,ky]
 refine Yc (f98 g hg) ?_
 simp
 (with_reducible repeat' first|refine Xk ?_<;>try simp|refine Xs ?_ ?_<;>intro h<;>(try intro h')<;>(try simp[h])<;>(try omega)|refine Xg ?_|omega)
 refine Yr (f99 g hg l hl (by omega)) ?_
 simp
 (with_reducible repeat' first|refine Xk ?_<;>try simp|refine Xs ?_ ?_<;>intro h<;>(try intro h')<;>(try simp[h])<;>(try omega)|refine Xg ?_|omega)
 refine Yc (f100 l (by omega) (fun p hp=>(hl p hp).small hg) hs) ?_
 simp
 (with_reducible repeat' first|refine Xk ?_<;>try simp|refine Xs ?_ ?_<;>intro h<;>(try intro h')<;>(try simp[h])<;>(try omega)|refine Xg ?_|omega)
 refine fe.e (0:Int) (fun y=>[(1,gb l),(2,.ptr 0 0 0),(7,.omap 1),(37,gb l),(38,.i l.length),(39,.i y)]) (fun y=>[.row 41 0 g.cells,.map .str (qC l y.toNat)]) (fun y=>0≤y∧y≤l.length) (fun y=>(l.length-y).toNat) ?_ ?_
 ·simp
 rintro i ⟨i0,i1⟩
 by_cases hi:i<l.length
 ·have hp:=hl _ (ff i0 hi)
  have FQ:=hp.size
  simp[hi]
  (with_reducible repeat' first|refine Xk ?_<;>try simp|refine Xs ?_ ?_<;>intro h<;>(try intro h')<;>(try simp[h])<;>(try omega)|refine Xg ?_|omega)
  refine Yc (f101 (gt l i) (by omega) (yj hg hp)) ?_
  simp
  simp[Yi hg hl hs i0 hi]
  (with_reducible repeat' first|refine Xk ?_<;>try simp|refine Xs ?_ ?_<;>intro h<;>(try intro h')<;>(try simp[h])<;>(try omega)|refine Xg ?_|omega)
  refine LJ.e (i+1) ?_
  exact⟨by omega,by omega,by omega⟩
 ·have e:i=l.length:=by omega
  subst e
  have IP:(fE g l).length=l.length:=by simp[fE]
  simp
  (with_reducible repeat' first|refine Xk ?_<;>try simp|refine Xs ?_ ?_<;>intro h<;>(try intro h')<;>(try simp[h])<;>(try omega)|refine Xg ?_|omega)
  refine fe.e (0:Int) (fun y=>[(2,.ptr 0 0 0),(7,.omap 1),(10,.eT 2 0 1 0 l.length),(52,gb l),(53,.i l.length),(54,.i y)]) (fun y=>[.row 41 0 g.cells,.map .str (qC l l.length),.row 33 0 (cl fN ((fE g l).take y.toNat++List.replicate (l.length-y.toNat) []))]) (fun y=>0≤y∧y≤l.length) (fun y=>(l.length-y).toNat) ?_ ?_
  ·simp
  rintro i ⟨i0,i1⟩
  by_cases hi:i<l.length
  ·have hp:=hl _ (ff i0 hi)
   obtain⟨n1,n2⟩:=r8 hc i0 hi
   have rP:∀ q∈gU g (gt l i),q∈l:=fun q hq=>hc.cl _ (ff i0 hi) q (wD.1 hq)
   have VG:=Bj hg hp
   simp[hi]
   (with_reducible repeat' first|refine Xk ?_<;>try simp|refine Xs ?_ ?_<;>intro h<;>(try intro h')<;>(try simp[h])<;>(try omega)|refine Xg ?_|omega)
   refine Yc (f26 g hg (gt l i) hp) ?_
   simp
   have gf:cl fN ((fE g l).take i.toNat++List.replicate (l.length-i.toNat) [])=cl fN ((fE g l).take i.toNat) ++ .emp::cl fN (List.replicate (l.length-(i+1).toNat) []):=by
    have hR:List.replicate (l.length-i.toNat) ([]:List Int) = []::List.replicate (l.length-(i+1).toNat) []:=by
     rw[← bL];congr 1;omega
    rw[hR,MA]
   have NQ:(fE g l).take (i+1).toNat=(fE g l).take i.toNat ++ [gt (fE g l) i]:=gE i0 (by omega)
   have Uy:gt (fE g l) i = []→cl fN ((fE g l).take i.toNat) ++ .emp::cl fN (List.replicate (l.length-(i+1).toNat) [])=cl fN ((fE g l).take (i+1).toNat++List.replicate (l.length-(i+1).toNat) []):=fun e=>by
    rw[MA,NQ,e];simp
   have Ah:gt (fE g l) i≠[]→cl fN ((fE g l).take i.toNat)++dI (gt (fE g l) i)::cl fN (List.replicate (l.length-(i+1).toNat) [])=cl fN ((fE g l).take (i+1).toNat++List.replicate (l.length-(i+1).toNat) []):=fun e=>by
    rw[Sp _ _ _ e,NQ];simp
   have uf:(cl fN ((fE g l).take i.toNat)).length=i.toNat:=by rw[zK,aS];omega
   have qh:∀ (ρ:Nat→Option Nat) (H:U) (k:Nat),(cl fN ((fE g l).take i.toNat)).map (eZ ρ H k)=cl fN ((fE g l).take i.toNat):=fun ρ H k=>wA (p7 _)
   have qj:∀ (ρ:Nat→Option Nat) (H:U) (k:Nat),(cl fN (List.replicate (l.length-(i+1).toNat) [])).map (eZ ρ H k)=cl fN (List.replicate (l.length-(i+1).toNat) []):=fun ρ H k=>wA (p7 _)
   have qc:∀ (q:Nat→Bool) (n:Nat),(List.map ((List.filter q) ∘ gG n) (cl fN ((fE g l).take i.toNat))).flatten = []:=fun q n=>flatten_nil fun a ha=>by
    show List.filter q (gG n a) = []
    rw[Hr n (kE (p7 _) a ha)];rfl
   have qd:∀ (q:Nat→Bool) (n:Nat),(List.map ((List.filter q) ∘ gG n) (cl fN (List.replicate (l.length-(i+1).toNat) []))).flatten = []:=fun q n=>flatten_nil fun a ha=>by
    show List.filter q (gG n a) = []
    rw[Hr n (kE (p7 _) a ha)];rfl
   have qH:(gt (fE g l) i).length=(gU g (gt l i)).length:=by rw[n1,List.length_map]
   have hK:∀ j:Int,0≤j→j<(gU g (gt l i)).length→gt (gt (fE g l) i) j=oc l (gt (gU g (gt l i)) j):=fun j j0 j1=>by
    rw[n1,nu j0 (by rw[List.length_map];exact j1),nu j0 j1,c9]
   generalize cl fN ((fE g l).take i.toNat)=A at *
   generalize hRR:cl fN (List.replicate (l.length-(i+1).toNat) [])=R at *
   have hG:∀ (d:D) (r:List D),(A++d::r)[i.toNat]? = some d:=fun d r=>by rw[ak (by omega),uf];simp
   have hT:∀ (d:D) (r:List D),(A++d::r).take i.toNat=A:=fun d r=>by rw[bn (by omega),aF (by omega)]
   have xO:∀ (d:D) (r:List D),(A++d::r).drop (i.toNat+1)=r:=fun d r=>by rw[List.drop_append,aZ (by omega),uf];simp
   have hLn:∀ (d:D),i.toNat<(A++d::R).length:=fun d=>by simp;omega
   refine fe.e (0:Int) (fun y=>[(2,.ptr 0 0 0),(7,.omap 1),(10,.eT 2 0 1 0 l.length),(11,.i i),(52,gb l),(53,.i l.length),(54,.i i),(61,dN 5 Pos.cells (gU g (gt l i))),(62,.i (gU g (gt l i)).length),(63,.i y)]) (fun y=>[.row 41 0 g.cells,.map .str (qC l l.length),.row 33 0 (A++(if y=0 then .emp else .eT 4 (y.toNat-1) 1 0 y.toNat)::R),.row 44 0 (gt l i).cells]++(if y=0 then []else [.row 3 (y.toNat-1) (cl f1 ((gt (fE g l) i).take y.toNat))])) (fun y=>0≤y∧y≤(gU g (gt l i)).length) (fun y=>((gU g (gt l i)).length-y).toNat) ?_ ?_
   ·simp
   rintro k ⟨k0,k1⟩
   by_cases hk:k<(gU g (gt l i)).length
   ·have hq:=rP _ (ff k0 hk)
    have Jy:=hl _ hq
    have FT:=Jy.size
    by_cases hz:k=0
    ·subst hz
     rw[if_pos rfl,if_pos rfl]
     simp[hk]
     (with_reducible repeat' first|refine Xk ?_<;>try simp|refine Xs ?_ ?_<;>intro h<;>(try intro h')<;>(try simp[h])<;>(try omega)|refine Xg ?_|omega)
     refine Yc (f101 (gt (gU g (gt l i)) 0) (by omega) (yj hg Jy)) ?_
     simp
     simp[PG hg hl hs hq]
     (with_reducible repeat' first|refine Xk ?_<;>try simp|refine Xs ?_ ?_<;>intro h<;>(try intro h')<;>(try simp[h])<;>(try omega)|refine Xg ?_|omega)
     simp[hG,hT,xO,uf,qh,qj,qc,qd,qH]
     (with_reducible repeat' first|refine Xk ?_<;>try simp[hG,hT,xO,uf,qh,qj,qc,qd,qH]|refine Xs ?_ ?_<;>intro h<;>(try intro h')<;>(try simp[h,hG,hT,xO,uf,qh,qj,qc,qd,qH])<;>(try omega)|refine Xg ?_|omega)
     have t1:(gt (fE g l) i).take 1 = [oc l (gt (gU g (gt l i)) 0)]:=by
      have:=gE (l:=gt (fE g l) i) (n:=0) (by omega) (by omega)
      rw[hK 0 (by omega) (by omega)]at this
      exact this
     refine LJ.i (1:Int) (by first|rfl|simp[t1,gL]) (by first|rfl|simp[t1,gL]) rfl rfl ?_
     exact⟨by omega,by omega,by omega⟩
    ·rw[if_neg hz,if_neg hz]
     simp[hk]
     (with_reducible repeat' first|refine Xk ?_<;>try simp|refine Xs ?_ ?_<;>intro h<;>(try intro h')<;>(try simp[h])<;>(try omega)|refine Xg ?_|omega)
     refine Yc (f101 (gt (gU g (gt l i)) k) (by omega) (yj hg Jy)) ?_
     simp
     simp[PG hg hl hs hq]
     (with_reducible repeat' first|refine Xk ?_<;>try simp|refine Xs ?_ ?_<;>intro h<;>(try intro h')<;>(try simp[h])<;>(try omega)|refine Xg ?_|omega)
     simp[hG,hT,xO,uf,qh,qj,qc,qd,qH]
     (with_reducible repeat' first|refine Xk ?_<;>try simp[hG,hT,xO,uf,qh,qj,qc,qd,qH]|refine Xs ?_ ?_<;>intro h<;>(try intro h')<;>(try simp[h,hG,hT,xO,uf,qh,qj,qc,qd,qH])<;>(try omega)|refine Xg ?_|omega)
     have t2:(gt (fE g l) i).take (k.toNat+1)=(gt (fE g l) i).take k.toNat ++ [oc l (gt (gU g (gt l i)) k)]:=by
      have:=gE (l:=gt (fE g l) i) (n:=k) (by omega) (by omega)
      rw[hK k (by omega) (by omega),show(k+1).toNat=k.toNat+1 by omega]at this
      exact this
     refine LJ.i (k+1) (by first|rfl|simp[show ¬ (k+1=0)by omega,show(k+1).toNat=k.toNat+1 by omega,show k.toNat-1+1=k.toNat by omega,t2,cP]) (by first|rfl|simp[show ¬ (k+1=0)by omega,show(k+1).toNat=k.toNat+1 by omega,show k.toNat-1+1=k.toNat by omega,t2,cP]) rfl rfl ?_
     exact⟨by omega,by omega,by omega⟩
   ·by_cases hz:k=0
    ·have eK:gt (fE g l) i = []:=aC.1 (by omega)
     have e0:=Uy eK
     subst hz
     rw[if_pos rfl,if_pos rfl]
     simp[show ¬ 0<(gU g (gt l i)).length by omega,qh,qj,qc,qd]
     (with_reducible repeat' first|refine Xk ?_<;>try simp[qh,qj,qc,qd]|refine Xs ?_ ?_<;>intro h<;>(try intro h')<;>(try simp[h,qh,qj,qc,qd])<;>(try omega)|refine Xg ?_|omega)
     exact LJ.i (i+1) rfl (by rw[← e0]) rfl rfl ⟨by omega,by omega,by omega⟩
    ·have eK:gt (fE g l) i≠[]:=fun e=>by rw[e]at qH;simp at qH;omega
     have e1:=Ah eK
     have tk:(gt (fE g l) i).take k.toNat=gt (fE g l) i:=aF (by omega)
     rw[if_neg hz,if_neg hz]
     have xY:k.toNat=(gU g (gt l i)).length:=by omega
     simp[hk,qh,qj,qc,qd,qH,tk,xY]
     (with_reducible repeat' first|refine Xk ?_<;>try simp[qh,qj,qc,qd,qH,tk,xY]|refine Xs ?_ ?_<;>intro h<;>(try intro h')<;>(try simp[h,qh,qj,qc,qd,qH,tk,xY])<;>(try omega)|refine Xg ?_|omega)
     exact LJ.i (i+1) rfl (by rw[← e1]) rfl rfl ⟨by omega,by omega,by omega⟩
  ·have e:i=l.length:=by omega
   subst e
   simp
   rw[aF (by omega),qF IP.symm]
