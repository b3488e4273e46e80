/- Part 28 of the proof of skewer.skewerlaw15.TableSlices. -/
import Derived.Test.YtnaefnajkaohgaaGreatDoorC26
import Derived.Test.YtnaefnajkaohgaaGreatDoorC27
set_option linter.all false
namespace Go.Proofs.YtnaefnajkaohgaaGreatDoor
open Go Go.AL Classical
set_option maxRecDepth 10000
set_option maxHeartbeats 8000000
@[irreducible] def fN(x:List Int):List D:=[dN 1 f1 x]
theorem fN_def(x:List Int):fN x = [dN 1 f1 x]:=by unfold fN;rfl
instance:Fl fN 1:=⟨fun x=>by rw[fN_def];rfl,fun x=>by simp[fN_def,closedL]⟩
theorem clN_put(a b:List (List Int))(x:List Int)(h:x≠[]):cl fN a++dI x::cl fN b=cl fN (a++x::b):=by
 rw[← cl_app,cl_cons,fN_def]
 cases x with
 | nil=>exact absurd rfl h
 | cons y r=>rfl
theorem clN_0(a b:List (List Int)):cl fN a++D.emp::cl fN b=cl fN (a ++ []::b):=by
 rw[← cl_app,cl_cons,fN_def];rfl
theorem rep_N(n:Nat):List.replicate n D.emp=cl fN (List.replicate n []):=by
 rw[← rep_cl,fN_def]
 simp[dN]
def entK(l:List Pos)(n:Nat):List (Value×D):=(upto n).map fun j=>(.string (keyB (gt l j)),.i j)
@[simp] theorem top_entK(q:Nat→Bool)(n m:Nat)(l:List Pos):(List.map ((List.filter q) ∘ fun x:Value×D=>topRef n x.2) (entK l m)).flatten = []:=
 flatten_nil fun a ha=>by
  obtain⟨j,_,rfl⟩:=List.mem_map.1 ha
  rfl
@[simp] theorem shed_entK(ρ:Nat→Option Nat)(H:Heap)(m:Nat)(l:List Pos):(entK l m).map (fun x=>(x.1,shed ρ H 40 x.2))=entK l m:=by
 rw[entK,List.map_map]
 exact List.map_congr_left fun j _=>by simp
theorem mapSet_new{α:Type}{f:α→ByteArray}{v:α→D}{k:ByteArray}{d:D}:∀ {l:List α},(∀ x∈l,k≠f x)→mapSet (l.map fun x=>((.string (f x):Value),v x)) (.string k) d=(l.map fun x=>((.string (f x):Value),v x)) ++ [(.string k,d)]
 | [],_=>by simp[mapSet]
 | a::l,h=>by
  rw[List.map_cons,mapSet,keyEq_str,mapSet_new fun x hx=>h x (by simp[hx])]
  simp[h a (by simp)]
theorem mapGet_hit{α:Type}{f:α→ByteArray}{v:α→D}{x:α}:∀ {l:List α},x∈l→(∀ y∈l,f x=f y→y=x)→mapGet (l.map fun x=>((.string (f x):Value),v x)) (.string (f x))=some (v x)
 | a::l,hx,h=>by
  rw[List.map_cons,mapGet,keyEq_str]
  by_cases e:f x=f a
  ·have:=h a (by simp) e
   subst this;simp
  ·have hx2:x∈l:=(List.mem_cons.1 hx).resolve_left fun e2=>e (by rw[e2])
   rw[mapGet_hit hx2 fun y hy=>h y (by simp[hy])]
   simp[e]
section
variable{g:Game}(hg:GameOK g){l:List Pos}(hl:∀ p∈l,PosOK g p)(hs:Sorted l)
include hg hl hs
theorem keyB_at{i j:Int}(i0:0≤i)(i1:i<l.length)(j0:0≤j)(j1:j<l.length)(h:keyB (gt l i)=keyB (gt l j)):i=j:=
 hs.inj i0 i1 j0 j1 (keyB_inj hg (hl _ (gt_mem i0 i1)) (hl _ (gt_mem j0 j1)) h)
theorem mapSet_entK{i:Int}(i0:0≤i)(i1:i<l.length):mapSet (entK l i.toNat) (.string (keyB (gt l i))) (.i i)=entK l (i+1).toNat:=by
 unfold entK
 rw[mapSet_new (f:=fun j=>keyB (gt l j)) (fun j hj e=>?_),upto_succ i0,List.map_append]
 ·rfl
 ·rw[mem_upto]at hj
  have:=keyB_at hg hl hs i0 i1 hj.1 (by omega) e
  omega
theorem mapGet_entK{q:Pos}(hq:q∈l):mapGet (entK l l.length) (.string (keyB q))=some (.i (findP l q)):=by
 obtain⟨h0,h1,h2⟩:=findP_gt hq
 have:=mapGet_hit (f:=fun j=>keyB (gt l j)) (v:=fun j=>D.i j) (x:=findP l q) (l:=upto l.length) (mem_upto.2 ⟨h0,h1⟩) (fun y hy e=>by
  rw[mem_upto]at hy
  exact(keyB_at hg hl hs h0 h1 hy.1 hy.2 e).symm)
 rw[h2]at this
 exact this
end
attribute [local simp] rep_N
theorem f52(g:Game)(hg:GameOK g)(l:List Pos)(hc:Closed2 g l)(h0:0<l.length):Wf T 52 [dG g,dPs l] [] (Is (.tup [.sl 1 ((nextI g l).map fN),.i 0])):=by
 have hl:=hc.ok
 have hs:=hc.srt
 have h9:=hc.len
 have hb:=hg.board.size
 refine Yz F52 (insB 87 [3] F52.body) ?_
 simp[F52,insB,insC,befK,froK,hasK,headIs]
 refine Yc (f98 g hg) ?_
 simp
 (with_reducible repeat' first|refine Xk ?_<;>try simp|refine Xs ?_ ?_<;>intro h<;>(try intro h')<;>(try simp[h])<;>(try omega)|refine Xg ?_|omega)
 refine Yr (f99 g hg l hl (by omega)) ?_
 simp
 (with_reducible repeat' first|refine Xk ?_<;>try simp|refine Xs ?_ ?_<;>intro h<;>(try intro h')<;>(try simp[h])<;>(try omega)|refine Xg ?_|omega)
 refine Yc (f100 l (by omega) (fun p hp=>(hl p hp).small hg) hs) ?_
 simp
 (with_reducible repeat' first|refine Xk ?_<;>try simp|refine Xs ?_ ?_<;>intro h<;>(try intro h')<;>(try simp[h])<;>(try omega)|refine Xg ?_|omega)
 refine XLoop.e (0:Int) (fun y=>[(1,dPs l),(2,.ptr 0 0 0),(7,.omap 1),(37,dPs l),(38,.i l.length),(39,.i y)]) (fun y=>[.row 41 0 g.cells,.map .str (entK l y.toNat)]) (fun y=>0≤y∧y≤l.length) (fun y=>(l.length-y).toNat) ?_ ?_
 ·simp
 rintro i ⟨i0,i1⟩
 by_cases hi:i<l.length
 ·have hp:=hl _ (gt_mem i0 hi)
  have hps:=hp.size
  simp[hi]
  (with_reducible repeat' first|refine Xk ?_<;>try simp|refine Xs ?_ ?_<;>intro h<;>(try intro h')<;>(try simp[h])<;>(try omega)|refine Xg ?_|omega)
  refine Yc (f101 (gt l i) (by omega) (keyL_len hg hp)) ?_
  simp
  simp[mapSet_entK hg hl hs i0 hi]
  (with_reducible repeat' first|refine Xk ?_<;>try simp|refine Xs ?_ ?_<;>intro h<;>(try intro h')<;>(try simp[h])<;>(try omega)|refine Xg ?_|omega)
  refine LJ.e (i+1) ?_
  exact⟨by omega,by omega,by omega⟩
 ·have e:i=l.length:=by omega
  subst e
  have hNl:(nextI g l).length=l.length:=by simp[nextI]
  simp
  (with_reducible repeat' first|refine Xk ?_<;>try simp|refine Xs ?_ ?_<;>intro h<;>(try intro h')<;>(try simp[h])<;>(try omega)|refine Xg ?_|omega)
  refine XLoop.e (0:Int) (fun y=>[(2,.ptr 0 0 0),(7,.omap 1),(10,.osl 2 0 1 0 l.length),(52,dPs l),(53,.i l.length),(54,.i y)]) (fun y=>[.row 41 0 g.cells,.map .str (entK l l.length),.row 33 0 (cl fN ((nextI g l).take y.toNat++List.replicate (l.length-y.toNat) []))]) (fun y=>0≤y∧y≤l.length) (fun y=>(l.length-y).toNat) ?_ ?_
  ·simp
  rintro i ⟨i0,i1⟩
  by_cases hi:i<l.length
  ·have hp:=hl _ (gt_mem i0 hi)
   obtain⟨n1,n2⟩:=nextI_in hc i0 hi
   have hmv:∀ q∈mvL g (gt l i),q∈l:=fun q hq=>hc.cl _ (gt_mem i0 hi) q (mvL_mem.1 hq)
   have hml:=mvL_len hg hp
   simp[hi]
   (with_reducible repeat' first|refine Xk ?_<;>try simp|refine Xs ?_ ?_<;>intro h<;>(try intro h')<;>(try simp[h])<;>(try omega)|refine Xg ?_|omega)
   refine Yc (f26 g hg (gt l i) hp) ?_
   simp
   have hrow:cl fN ((nextI g l).take i.toNat++List.replicate (l.length-i.toNat) [])=cl fN ((nextI g l).take i.toNat) ++ .emp::cl fN (List.replicate (l.length-(i+1).toNat) []):=by
    have hR:List.replicate (l.length-i.toNat) ([]:List Int) = []::List.replicate (l.length-(i+1).toNat) []:=by
     rw[← List.replicate_succ];congr 1;omega
    rw[hR,clN_0]
   have hTk:(nextI g l).take (i+1).toNat=(nextI g l).take i.toNat ++ [gt (nextI g l) i]:=take_gt i0 (by omega)
   have hE0:gt (nextI g l) i = []→cl fN ((nextI g l).take i.toNat) ++ .emp::cl fN (List.replicate (l.length-(i+1).toNat) [])=cl fN ((nextI g l).take (i+1).toNat++List.replicate (l.length-(i+1).toNat) []):=fun e=>by
    rw[clN_0,hTk,e];simp
   have hE1:gt (nextI g l) i≠[]→cl fN ((nextI g l).take i.toNat)++dI (gt (nextI g l) i)::cl fN (List.replicate (l.length-(i+1).toNat) [])=cl fN ((nextI g l).take (i+1).toNat++List.replicate (l.length-(i+1).toNat) []):=fun e=>by
    rw[clN_put _ _ _ e,hTk];simp
   have hAl:(cl fN ((nextI g l).take i.toNat)).length=i.toNat:=by rw[cl_len,List.length_take];omega
   have hsA:∀ (ρ:Nat→Option Nat) (H:Heap) (k:Nat),(cl fN ((nextI g l).take i.toNat)).map (shed ρ H k)=cl fN ((nextI g l).take i.toNat):=fun ρ H k=>map_shed_closed (cl_closed _)
   have hsR:∀ (ρ:Nat→Option Nat) (H:Heap) (k:Nat),(cl fN (List.replicate (l.length-(i+1).toNat) [])).map (shed ρ H k)=cl fN (List.replicate (l.length-(i+1).toNat) []):=fun ρ H k=>map_shed_closed (cl_closed _)
   have hfA:∀ (q:Nat→Bool) (n:Nat),(List.map ((List.filter q) ∘ topRef n) (cl fN ((nextI g l).take i.toNat))).flatten = []:=fun q n=>flatten_nil fun a ha=>by
    show List.filter q (topRef n a) = []
    rw[topRef_cl n (closedL_of (cl_closed _) a ha)];rfl
   have hfR:∀ (q:Nat→Bool) (n:Nat),(List.map ((List.filter q) ∘ topRef n) (cl fN (List.replicate (l.length-(i+1).toNat) []))).flatten = []:=fun q n=>flatten_nil fun a ha=>by
    show List.filter q (topRef n a) = []
    rw[topRef_cl n (closedL_of (cl_closed _) a ha)];rfl
   have hKl:(gt (nextI g l) i).length=(mvL g (gt l i)).length:=by rw[n1,List.length_map]
   have hK:∀ j:Int,0≤j→j<(mvL g (gt l i)).length→gt (gt (nextI g l) i) j=findP l (gt (mvL g (gt l i)) j):=fun j j0 j1=>by
    rw[n1,gt_eq j0 (by rw[List.length_map];exact j1),gt_eq j0 j1,List.getElem_map]
   generalize cl fN ((nextI g l).take i.toNat)=A at *
   generalize hRR:cl fN (List.replicate (l.length-(i+1).toNat) [])=R at *
   have hG:∀ (d:D) (r:List D),(A++d::r)[i.toNat]? = some d:=fun d r=>by rw[List.getElem?_append_right (by omega),hAl];simp
   have hT:∀ (d:D) (r:List D),(A++d::r).take i.toNat=A:=fun d r=>by rw[List.take_append_of_le_length (by omega),List.take_of_length_le (by omega)]
   have hDr:∀ (d:D) (r:List D),(A++d::r).drop (i.toNat+1)=r:=fun d r=>by rw[List.drop_append,List.drop_of_length_le (by omega),hAl];simp
   have hLn:∀ (d:D),i.toNat<(A++d::R).length:=fun d=>by simp;omega
   refine XLoop.e (0:Int) (fun y=>[(2,.ptr 0 0 0),(7,.omap 1),(10,.osl 2 0 1 0 l.length),(11,.i i),(52,dPs l),(53,.i l.length),(54,.i i),(61,dN 5 Pos.cells (mvL g (gt l i))),(62,.i (mvL g (gt l i)).length),(63,.i y)]) (fun y=>[.row 41 0 g.cells,.map .str (entK l l.length),.row 33 0 (A++(if y=0 then .emp else .osl 4 (y.toNat-1) 1 0 y.toNat)::R),.row 44 0 (gt l i).cells]++(if y=0 then []else [.row 3 (y.toNat-1) (cl f1 ((gt (nextI g l) i).take y.toNat))])) (fun y=>0≤y∧y≤(mvL g (gt l i)).length) (fun y=>((mvL g (gt l i)).length-y).toNat) ?_ ?_
   ·simp
   rintro k ⟨k0,k1⟩
   by_cases hk:k<(mvL g (gt l i)).length
   ·have hq:=hmv _ (gt_mem k0 hk)
    have hqp:=hl _ hq
    have hqs:=hqp.size
    by_cases hz:k=0
    ·subst hz
     rw[if_pos rfl,if_pos rfl]
     simp[hk]
     (with_reducible repeat' first|refine Xk ?_<;>try simp|refine Xs ?_ ?_<;>intro h<;>(try intro h')<;>(try simp[h])<;>(try omega)|refine Xg ?_|omega)
     refine Yc (f101 (gt (mvL g (gt l i)) 0) (by omega) (keyL_len hg hqp)) ?_
     simp
     simp[mapGet_entK hg hl hs hq]
     (with_reducible repeat' first|refine Xk ?_<;>try simp|refine Xs ?_ ?_<;>intro h<;>(try intro h')<;>(try simp[h])<;>(try omega)|refine Xg ?_|omega)
     simp[hG,hT,hDr,hAl,hsA,hsR,hfA,hfR,hKl]
     (with_reducible repeat' first|refine Xk ?_<;>try simp[hG,hT,hDr,hAl,hsA,hsR,hfA,hfR,hKl]|refine Xs ?_ ?_<;>intro h<;>(try intro h')<;>(try simp[h,hG,hT,hDr,hAl,hsA,hsR,hfA,hfR,hKl])<;>(try omega)|refine Xg ?_|omega)
     have t1:(gt (nextI g l) i).take 1 = [findP l (gt (mvL g (gt l i)) 0)]:=by
      have:=take_gt (l:=gt (nextI g l) i) (n:=0) (by omega) (by omega)
      rw[hK 0 (by omega) (by omega)]at this
      exact this
     refine LJ.i (1:Int) (by first|rfl|simp[t1,cl_one]) (by first|rfl|simp[t1,cl_one]) rfl rfl ?_
     exact⟨by omega,by omega,by omega⟩
    ·rw[if_neg hz,if_neg hz]
     simp[hk]
     (with_reducible repeat' first|refine Xk ?_<;>try simp|refine Xs ?_ ?_<;>intro h<;>(try intro h')<;>(try simp[h])<;>(try omega)|refine Xg ?_|omega)
     refine Yc (f101 (gt (mvL g (gt l i)) k) (by omega) (keyL_len hg hqp)) ?_
     simp
     simp[mapGet_entK hg hl hs hq]
     (with_reducible repeat' first|refine Xk ?_<;>try simp|refine Xs ?_ ?_<;>intro h<;>(try intro h')<;>(try simp[h])<;>(try omega)|refine Xg ?_|omega)
     simp[hG,hT,hDr,hAl,hsA,hsR,hfA,hfR,hKl]
     (with_reducible repeat' first|refine Xk ?_<;>try simp[hG,hT,hDr,hAl,hsA,hsR,hfA,hfR,hKl]|refine Xs ?_ ?_<;>intro h<;>(try intro h')<;>(try simp[h,hG,hT,hDr,hAl,hsA,hsR,hfA,hfR,hKl])<;>(try omega)|refine Xg ?_|omega)
     have t2:(gt (nextI g l) i).take (k.toNat+1)=(gt (nextI g l) i).take k.toNat ++ [findP l (gt (mvL g (gt l i)) k)]:=by
      have:=take_gt (l:=gt (nextI g l) i) (n:=k) (by omega) (by omega)
      rw[hK k (by omega) (by omega),show(k+1).toNat=k.toNat+1 by omega]at this
      exact this
     refine LJ.i (k+1) (by first|rfl|simp[show ¬ (k+1=0)by omega,show(k+1).toNat=k.toNat+1 by omega,show k.toNat-1+1=k.toNat by omega,t2,List.take_take]) (by first|rfl|simp[show ¬ (k+1=0)by omega,show(k+1).toNat=k.toNat+1 by omega,show k.toNat-1+1=k.toNat by omega,t2,List.take_take]) rfl rfl ?_
     exact⟨by omega,by omega,by omega⟩
   ·by_cases hz:k=0
    ·have eK:gt (nextI g l) i = []:=List.length_eq_zero_iff.1 (by omega)
     have e0:=hE0 eK
     subst hz
     rw[if_pos rfl,if_pos rfl]
     simp[show ¬ 0<(mvL g (gt l i)).length by omega,hsA,hsR,hfA,hfR]
     (with_reducible repeat' first|refine Xk ?_<;>try simp[hsA,hsR,hfA,hfR]|refine Xs ?_ ?_<;>intro h<;>(try intro h')<;>(try simp[h,hsA,hsR,hfA,hfR])<;>(try omega)|refine Xg ?_|omega)
     exact LJ.i (i+1) rfl (by rw[← e0]) rfl rfl ⟨by omega,by omega,by omega⟩
    ·have eK:gt (nextI g l) i≠[]:=fun e=>by rw[e]at hKl;simp at hKl;omega
     have e1:=hE1 eK
     have tk:(gt (nextI g l) i).take k.toNat=gt (nextI g l) i:=List.take_of_length_le (by omega)
     rw[if_neg hz,if_neg hz]
     have hkl:k.toNat=(mvL g (gt l i)).length:=by omega
     simp[hk,hsA,hsR,hfA,hfR,hKl,tk,hkl]
     (with_reducible repeat' first|refine Xk ?_<;>try simp[hsA,hsR,hfA,hfR,hKl,tk,hkl]|refine Xs ?_ ?_<;>intro h<;>(try intro h')<;>(try simp[h,hsA,hsR,hfA,hfR,hKl,tk,hkl])<;>(try omega)|refine Xg ?_|omega)
     exact LJ.i (i+1) rfl (by rw[← e1]) rfl rfl ⟨by omega,by omega,by omega⟩
  ·have e:i=l.length:=by omega
   subst e
   simp
   rw[List.take_of_length_le (by omega),fzR_cl hNl.symm]
end Go.Proofs.YtnaefnajkaohgaaGreatDoor
