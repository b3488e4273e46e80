/- Part 42 of the proof of skewer.skewerlaw15.TableSlices. -/
import Derived.Test.YtnaefnajkaohgaaGreatDoorC41
import Derived.Test.YtnaefnajkaohgaaGreatDoorC20
set_option linter.all false
namespace Go.Proofs.YtnaefnajkaohgaaGreatDoor
open Go Go.AL Classical
set_option maxRecDepth 10000
set_option maxHeartbeats 8000000
section
variable{m:List Int}{ls:List (Int×List Int)}{G:Heap}
@[simp] theorem LH_g0(h:0<(LH m ls).length):(LH m ls)[0]'h = .row 50 0 [dI m]:=rfl
@[simp] theorem LH_g1(h:1<(LH m ls).length):(LH m ls)[1]'h = .map (.int .i64) (esF 2 ls):=rfl
theorem LH_n0:(LH m ls++G)[ls.length+2]? = G[0]? := by rw[List.getElem?_append_right (by simp),LH_len,Nat.sub_self]
theorem LH_n1:(LH m ls++G)[ls.length+3]? = G[1]? := by
 rw[List.getElem?_append_right (by simp),LH_len,show ls.length+3-(ls.length+2)=1 by omega]
theorem LH_n2:(LH m ls++G)[ls.length+4]? = G[2]? := by
 rw[List.getElem?_append_right (by simp),LH_len,show ls.length+4-(ls.length+2)=2 by omega]
theorem LH_s0(x:Ob):(LH m ls++G).set (ls.length+2) x=LH m ls++G.set 0 x:=by rw[List.set_append_right _ _ (by simp),LH_len,Nat.sub_self]
theorem LH_s1(x:Ob):(LH m ls++G).set (ls.length+3) x=LH m ls++G.set 1 x:=by rw[List.set_append_right _ _ (by simp),LH_len,show ls.length+3-(ls.length+2)=1 by omega]
end
theorem LH_p1{m:List Int}{ls:List (Int×List Int)}{G:Heap}{k:Nat}{y:Ob}(h:1<((LH m ls++G).set (2+k) y).length):((LH m ls++G).set (2+k) y)[1]'h = .map (.int .i64) (esF 2 ls):=by
 rw[List.getElem_set_ne (by omega),List.getElem_append_left (by simp)]
 rfl
theorem LH_cut0{n:Nat}{live:List Nat}{env:Env}{m:List Int}{ls:List (Int×List Int)}{r:Bool}(h2:2≤n)(hn:n≤ls.length+2)(he:okEnv n (forget live env)) :
  cut n live { env:=env,H:=LH m ls,marks:=[],rnd:=r } = { env:=forget live env,H:=LH m ls,marks:=[],rnd:=r }:=by
 have:=LH_cut (m:=m) (ls:=ls) (G:=[]) (r:=r) h2 hn he
 rwa [List.append_nil]at this
theorem blkK_LH{id n:Nat}{live:List Nat}{K:OutP}{env:Env}{H G:Heap}{r:Bool}{m:List Int}{ls:List (Int×List Int)}(hH:H=LH m ls++G)(h2:2≤n)(hn:n≤ls.length+2)(he:okEnv n (forget live env))
  (k:K (.norm { env:=forget live env,H:=LH m ls,marks:=[],rnd:=r })):blkK id n live K (.norm { env:=env,H:=H,marks:=[],rnd:=r }):=by
 subst hH
 rw[blkK_norm,LH_cut h2 hn he]
 exact k
theorem blkK_LN{id n:Nat}{live:List Nat}{K:OutP}{env:Env}{H:Heap}{r:Bool}{m:List Int}{ls:List (Int×List Int)}{o1 o2:Ob}{k i:Int}(hH:H=(LH m ls).set 1 (.map (.int .i64) (esF 2 ls ++ [(.int .i64 k,.osl (ls.length+4) 0 1 0 1)])) ++ [o1,o2,.row 3 0 [.i i]])(h2:2≤n)(hn:n≤ls.length+2)(he:okEnv n (forget live env))
  (h:K (.norm { env:=forget live env,H:=LH m (ls ++ [(k,[i])]),marks:=[],rnd:=r })):blkK id n live K (.norm { env:=env,H:=H,marks:=[],rnd:=r }):=by
 subst hH
 rw[← List.set_append_left _ _ (by simp),blkK_norm,LH_cutN h2 hn he]
 exact h
theorem ok_env{n:Nat}(h:2≤n)(l:List Pos)(a i:Int):okEnv n [(2,.ptr 0 0 0),(5,.omap 1),(13,dPs l),(14,.i a),(15,.i i)]:=
 okEnv_p (by omega) (okEnv_m (by omega) (okEnv_c (closed_dPs l) (okEnv_c rfl (okEnv_c rfl okEnv_nil))))
@[simp] theorem box_omap(t:TypeId)(v n:Nat):boxO t (.omap v) n=some (.ptr n 0 0,.new (.row t 0 [.omap v])):=rfl
@[simp] theorem box_emp(t:TypeId)(n:Nat):boxO t .emp n=some (.ptr n 0 0,.new (.row t 0 [.emp])):=rfl
@[simp] theorem topRef_esK(n:Nat)(ls:List (Int×List Int)):((esK ls).map fun x=>topRef n x.2)=ls.map fun _=>[]:=by
 unfold esK
 rw[List.map_map]
 exact List.map_congr_left fun e _=>by simp
@[simp] theorem esK_len(ls:List (Int×List Int)):(esK ls).length=ls.length:=by simp[esK]
@[simp] theorem esK_shed(ρ:Nat→Option Nat)(H:Heap)(ls:List (Int×List Int)):((esK ls).map fun x=>(x.1,shed ρ H 40 x.2))=esK ls:=by
 unfold esK
 rw[List.map_map]
 refine List.map_congr_left fun e _=>?_
 have:shed ρ H 40 (dI e.2)=dI e.2:=shed_closed (closed_dI e.2)
 simp[this]
theorem esK_cut{env:Env}{m:List Int}{ls:List (Int×List Int)}{k:Nat}{r:Bool}(he:forget [5] env = [(5,.omap 1)]) :
  cut 2 [5] { env:=env,H:=.row 50 0 [dI m] :: .map (.int .i64) (esK ls)::List.replicate k .dead,marks:=[],rnd:=r } = { env:=[(5,.omap 1)],H:=[.row 50 0 [dI m],.map (.int .i64) (esK ls)],marks:=[],rnd:=r }:=by
 by_cases hk:k=0
 ·subst hk
  rw[cut_none (by simp),he];rfl
 ·rw[cutE (by simp;omega),he]
  have h1:shed (rho (keepOf 2 [])) (.row 50 0 [dI m] :: .map (.int .i64) (esK ls)::List.replicate k .dead) 40 (dI m)=dI m:=shed_closed (closed_dI m)
  have hr:refsB 2 [(5,D.omap 1)] (.row 50 0 [dI m] :: .map (.int .i64) (esK ls)::List.replicate k .dead) [] = []:=by
   unfold refsB
   simp
  rw[hr]
  unfold cutB
  simp only[keepOf_2,List.map_nil,List.map_cons]at h1 ⊢
  simp[esK_shed,h1,shedAt,shedOb]
theorem gk_nodup{ds:List Int}(h:ds.Nodup):∀ {ys:List Nat},ys.Nodup→(∀ j∈ys,j<ds.length)→(gk ds ys).Nodup
 | [],_,_=>List.nodup_nil
 | j::r,hn,hl=>by
  obtain⟨h1,h2⟩:=List.nodup_cons.1 hn
  refine List.nodup_cons.2 ⟨fun hm=>?_,gk_nodup h h2 fun k hk=>hl k (by simp[hk])⟩
  obtain⟨k,hk,e⟩:=List.mem_map.1 hm
  have hj:=hl j (by simp)
  have hk2:=hl k (by simp[hk])
  dsimp only at e
  rw[gt_nat hj,gt_nat hk2]at e
  have:=(List.getElem_inj h).1 e
  exact h1 (this▸hk)
def HK(m:List Int)(ls:List (Int×List Int))(x:D)(st:RSt):Heap:=[.row 50 0 [dI m],.map (.int .i64) (esK ls),.row 33 0 (List.replicate ls.length .emp),.row 192 0 [.omap 1],.row 33 0 [x],.dfr,.rcd 12608 [(2,.ptr 4 0 0)] st]
theorem esK_at{ls:List (Int×List Int)}{ds:List Int}(hds:ls.map (·.1)=ds){i:Nat}{k:Value}{d:D}(h:(esK ls)[i]? = some (k,d)):i<ls.length∧k = .int .i64 (gt ds (i:Int)):=by
 subst hds
 unfold esK at h
 rw[List.getElem?_map]at h
 obtain⟨a,ha,he⟩:=Option.map_eq_some_iff.1 h
 obtain⟨hi,e⟩:=List.getElem?_eq_some_iff.1 ha
 refine⟨hi,?_⟩
 rw[gt_nat (by simpa using hi),List.getElem_map,e]
 exact(congrArg Prod.fst he).symm
theorem cut161{env:Env}{m:List Int}{ls:List (Int×List Int)}{k:Int}{n:Nat}{ys:List Nat}{o8:Ob} :
  cut 8 [] { env:=env,H:=[.row 50 0 [dI m],.map (.int .i64) (esK ls),.row 33 0 (List.replicate n .emp),.row 192 0 [.omap 1],.row 33 0 [.osl 9 0 1 0 1],.dfr,.rcd 12608 [(2,.ptr 4 0 0)] .busy,.miter (.omap 1) n ys,o8,.row 3 0 [.i k]],marks:=[],rnd:=true } =
   { env:=[],H:=[.row 50 0 [dI m],.map (.int .i64) (esK ls),.row 33 0 (List.replicate n .emp),.row 192 0 [.omap 1],.row 33 0 [.osl 8 0 1 0 1],.dfr,.rcd 12608 [(2,.ptr 4 0 0)] .busy,.miter (.omap 1) n ys,.row 3 0 [.i k]],marks:=[],rnd:=true }:=by
 rw[cutE (by simp)]
 have hr:refsB 8 (forget [] env) [.row 50 0 [dI m],.map (.int .i64) (esK ls),.row 33 0 (List.replicate n .emp),.row 192 0 [.omap 1],.row 33 0 [.osl 9 0 1 0 1],.dfr,.rcd 12608 [(2,.ptr 4 0 0)] .busy,.miter (.omap 1) n ys,o8,.row 3 0 [.i k]] [] = [9]:=by
  simp[refsB]
 rw[hr]
 simp[cutB]
theorem f161(m:List Int)(ls:List (Int×List Int))(h4:ls.length≤4000)(h0:0<ls.length)(ds:List Int)(hds:ls.map (·.1)=ds)(hnd:ds.Nodup) :
  Wf T 161 [.yld 6,.ptr 3 0 0] (HK m ls .emp .ready) (fun _ H'=>∃ ks:List Int,ks.Nodup∧(∀ n,n∈ks↔n∈ds)∧H'=HK m ls (.osl 7 (ks.length-1) 1 0 ks.length) .ready ++ [.row 3 (ks.length-1) (cl f1 ks)]):=by
 have hdl:ds.length=ls.length:=by rw[← hds,List.length_map]
 have hgkl:∀ ys,(gk ds ys).length=ys.length:=fun ys=>by simp[gk]
 unfold HK
 refine Yg F161 ?_
 simp[F161]
 refine XLoop.e ([]:List Nat) (fun y=>[(0,.yld 6),(5,.ptr 7 0 0)]) (fun y=>HK m ls (if y = []then .emp else .osl 8 (y.length-1) 1 0 y.length) .ready ++ .miter (.omap 1) ls.length y::(if y = []then []else [.row 3 (y.length-1) (cl f1 (gk ds y))])) (fun y=>y.Nodup∧∀ j∈y,j<ls.length) (fun y=>ls.length-y.length) ?_ ?_
 ·simp
 rintro ys ⟨hnd2,hlt⟩
 dsimp only at hnd2 hlt ⊢
 have hup:∀ i,i ∉ ys→i<ls.length→ls.length-(ys ++ [i]).length<ls.length-ys.length∧(ys ++ [i]).Nodup∧∀ j∈ys ++ [i],j<ls.length:=fun i hi hi2=>by
  have hnd':(ys ++ [i]).Nodup:=by
   rw[List.nodup_append]
   exact⟨hnd2,by simp,fun a ha b hb e=>hi (by rw[List.mem_singleton.1 hb]at e;exact e▸ha)⟩
  have hlt':∀ j∈ys ++ [i],j<ls.length:=fun j hj=>by
   rcases List.mem_append.1 hj with hj|hj
   ·exact hlt j hj
   ·rw[List.mem_singleton.1 hj];exact hi2
  have:=nodup_len hnd' (m:=List.range ls.length) fun x hx=>List.mem_range.2 (hlt' x hx)
  simp only[List.length_append,List.length_singleton,List.length_range]at this
  exact⟨by simp only[List.length_append,List.length_singleton];omega,hnd',hlt'⟩
 by_cases hy:ys = []
 ·subst hy
  simp[HK]
  refine XNext.at (m:=1) (since:=ls.length) (seen:=[]) (kk:=.int .i64) (es:=esK ls) (by simp) (by simp) (by simp) (fun hall=>?_) fun i k d he hi=>?_
  ·exact absurd (hall 0 (by simpa using h0)) (by simp)
  ·obtain⟨hi2,rfl⟩:=esK_at hds he
   simp[he]
   refine XYield.r (rf:=12608) (env0:=[(2,.ptr 4 0 0)]) (Rd:=R12608) (by simp) rfl rfl R12608.a R12608.b (unfz_no rfl) (unfz_no rfl) ?_
   simp[R12608,-cutE,cut161]
   simp
   refine LJ.i [i] (by simp) (by simp[cl_one,gk]) rfl rfl ?_
   exact⟨by simp;omega,by simp,fun j hj=>by rw[List.mem_singleton.1 hj];exact hi2⟩
 ·have hyl:0<ys.length:=List.length_pos_iff.2 hy
  have hyl2:=nodup_len hnd2 (m:=List.range ls.length) fun x hx=>List.mem_range.2 (hlt x hx)
  rw[List.length_range]at hyl2
  simp only[if_neg hy]
  simp[HK]
  refine XNext.at (m:=1) (since:=ls.length) (seen:=ys) (kk:=.int .i64) (es:=esK ls) (by simp) (by simp) (by simp) (fun hall=>?_) fun i k d he hi=>?_
  ·simp
   refine⟨gk ds ys,?_,mem_gk (by rw[hdl];exact hlt) (by rw[hdl];simpa using hall),?_⟩
   ·exact gk_nodup hnd hnd2 (by rw[hdl];exact hlt)
   ·rw[hgkl]
    exact⟨rfl,rfl,rfl,rfl⟩
  ·obtain⟨hi2,rfl⟩:=esK_at hds he
   have h3:=hup i hi hi2
   simp[he]
   refine XYield.r (rf:=12608) (env0:=[(2,.ptr 4 0 0)]) (Rd:=R12608) (by simp) rfl rfl R12608.a R12608.b (unfz_no rfl) (unfz_no rfl) ?_
   simp[R12608,hgkl]
   (with_reducible repeat' first|refine Xk ?_<;>try simp|refine Xs ?_ ?_<;>intro h<;>(try intro h')<;>(try simp[h])<;>(try omega)|refine Xg ?_|omega)
   refine LJ.i (ys ++ [i]) (by first|rfl|simp[gk_snoc,show ys.length-1+1=ys.length by omega]) (by first|rfl|simp[gk_snoc,show ys.length-1+1=ys.length by omega]) rfl rfl ?_
   exact h3
theorem f160{v gen t:Nat}{l:List Int}{H:Heap}{K:D→Heap→Prop}(h0:0<l.length)(h62:l.length<4611686018427387904)(hv:H[v]? = some (.row t gen (cl f1 l)))
  (k:K (.tup []) (H.set v (.row t gen (cl f1 (l.mergeSort fun x y=>decide (x≤y)))))):Wf T 160 [.osl v gen 1 0 l.length] H K:=by
 rw[cl_I]at hv k
 exact Ev.sortI l rfl h0 h62 hv ⟨_,_,rfl,k⟩
attribute [-simp] cutE
section
variable{g:Game}{m:List Int}{l:List Pos}
theorem f77(hg:GameOK g)(hm:MOK g m)(hl:∀ p∈l,PosOK g p)(h9:l.length≤4000)(h0:0<l.length):Wf T 77 [.agg [dI m],dPs l] [] (Is (.sl 1 ((cutL m l).map fI))):=by
 refine Yg F77 ?_
 simp[F77]
 refine XLoop.v ((0,[]):Int×List (Int×List Int)) (fun y=>[(2,.ptr 0 0 0),(5,.omap 1),(13,dPs l),(14,.i l.length),(15,.i y.1)]) (fun y=>LH m y.2) (fun y=>0≤y.1∧y.1≤l.length∧GI m l y.1 y.2) (fun y=>(l.length-y.1).toNat) ?_ (by simp) (by first|rfl|(simp[cl_one];done)|(simp[*];done)) rfl rfl rfl ?_
 ·exact⟨by simp,by simp,GI.nil m l⟩
 rintro⟨i,ls⟩ ⟨i0,i1,hG⟩
 dsimp only at i0 i1 hG ⊢
 by_cases hi:i<l.length
 ·refine XC.wc ?_
  have hp:=hl _ (gt_mem i0 hi)
  have hin:=levL_in hg hm hp
  simp[hi,LH_n0,LH_n1,LH_n2,LH_s0,LH_s1]
  (with_reducible repeat' first|refine Xk ?_<;>try simp[LH_n0,LH_n1,LH_n2,LH_s0,LH_s1]|refine Xs ?_ ?_<;>intro h<;>(try intro h')<;>(try simp[h,LH_n0,LH_n1,LH_n2,LH_s0,LH_s1])<;>(try omega)|refine Xg ?_|omega)
  refine Yc (f114 hg hm hp) ?_
  simp[LH_n0,LH_n1,LH_n2,LH_s0,LH_s1]
  by_cases hmem:levL m (gt l i)∈ls.map (·.1)
  ·obtain⟨a,x,b,e,ha,hG2⟩:=hG.old i0 hmem
   generalize levL m (gt l i)=n at *
   have hx:=hG.pos (n,x) (by rw[e];simp)
   have hxl:=hG.plen (n,x) (by rw[e];simp)
   dsimp only at hx hxl
   have hget:mapGet (esF 2 ls) (.int .i64 n)=some (.osl (2+a.length) (x.length-1) 1 0 x.length):=by rw[e];exact esF_at ha 2 x b
   have hat:∀ G,(LH m ls++G)[2+a.length]? = some (.row 3 (x.length-1) (cl f1 x)):=fun G=>by rw[e];exact LH_at m a (n,x) b G
   have hl1:(x ++ [i]).length=x.length+1:=by simp
   have hset:mapSet (esF 2 ls) (.int .i64 n) (.osl (2+a.length) (x.length-1+1) 1 0 (x.length+1))=esF 2 (a++(n,x ++ [i])::b):=by
    have:=esF_sat ha 2 x (x ++ [i]) b
    rw[← e,hl1,show x.length+1-1=x.length-1+1 by omega]at this
    exact this
   have hput:∀ G,((LH m ls++G).set (2+a.length) (.row 3 (x.length-1+1) (cl f1 (x ++ [i])))).set 1 (.map (.int .i64) (esF 2 (a++(n,x ++ [i])::b)))=LH m (a++(n,x ++ [i])::b)++G:=fun G=>by
    have:=LH_put m a n x (x ++ [i]) b G
    rw[← e,hl1,show x.length+1-1=x.length-1+1 by omega]at this
    exact this
   have hll:ls.length=(a++(n,x ++ [i])::b).length:=by rw[e];simp
   simp[hget,hat,LH_n0,LH_n1,LH_n2,LH_s0,LH_s1,LH_p1,hset,-blkK_norm]
   (with_reducible repeat' first|refine Xk ?_<;>try simp|refine Xs ?_ ?_<;>intro h<;>(try intro h')<;>(try simp[h])<;>(try omega)|refine Xg ?_|omega)
   refine blkK_LH (ls:=a++(n,x ++ [i])::b) (m:=m) (G:=?_) (by simp[hput,hset,LH_n0,LH_n1,LH_n2,LH_s0,LH_s1,LH_p1];rfl) (by simp) (by omega) (by simp;exact ok_env (by omega) _ _ _) ?_
   simp[-loopK_norm]
   (with_reducible repeat' first|refine Xk ?_<;>try simp|refine Xs ?_ ?_<;>intro h<;>(try intro h')<;>(try simp[h])<;>(try omega)|refine Xg ?_|omega)
   rw[loopK_norm,LH_cut0 (by omega) (by simp) (by simp;exact ok_env (by omega) _ _ _)]
   refine LJ.e (i+1,a++(n,x ++ [i])::b) ?_
   exact⟨by omega,by omega,by omega,hG2⟩
  ·have hG2:=hG.new i0 hmem
   have hll:=hG2.len
   rw[List.length_append,List.length_singleton]at hll
   generalize levL m (gt l i)=n at *
   have hget:mapGet (esF 2 ls) (.int .i64 n)=none:=esF_no hmem 2
   have hset:mapSet (esF 2 ls) (.int .i64 n) (.osl (ls.length+4) 0 1 0 1)=esF 2 ls ++ [(.int .i64 n,.osl (ls.length+4) 0 1 0 1)]:=esF_sno hmem 2 _
   simp[hget,LH_n0,LH_n1,LH_n2,LH_s0,LH_s1,LH_p1,hset,-blkK_norm]
   refine blkK_LN (m:=m) rfl (by omega) (by omega) (by simp;exact ok_env (by omega) _ _ _) ?_
   simp[-loopK_norm]
   (with_reducible repeat' first|refine Xk ?_<;>try simp|refine Xs ?_ ?_<;>intro h<;>(try intro h')<;>(try simp[h])<;>(try omega)|refine Xg ?_|omega)
   rw[loopK_norm,LH_cut0 (by omega) (by simp) (by simp;exact ok_env (by omega) _ _ _)]
   refine LJ.e (i+1,ls ++ [(n,[i])]) ?_
   exact⟨by omega,by omega,by omega,hG2⟩
 ·have hie:i=l.length:=by omega
  subst hie
  have hgl:=hG.len
  refine Wc.frz (List.range' 2 ls.length) (mOK_nil _) ?_
  rw[LH_frz _ _ _ _ _ hG.pos]
  refine XC.wc ?_
  simp[-blkK_same]
  rw[blkK_same,esK_cut (by simp)]
  simp
  (with_reducible repeat' first|refine Xk ?_<;>try simp|refine Xs ?_ ?_<;>intro h<;>(try intro h')<;>(try simp[h])<;>(try omega)|refine Xg ?_|omega)
  refine XCall.inl F116 rfl rfl (by simp[F116]) rfl ?_
  simp[F116]
  refine XCall.inl F115 rfl rfl (by simp[F115]) rfl ?_
  simp[F115]
  refine XCall.inl F159 rfl rfl (by simp[F159]) rfl ?_
  simp[F159]
  refine XCall.inl F197 rfl rfl (by simp[F197]) rfl ?_
  simp[F197]
  refine XRange.r (f:=161) (first:=[]) (cap:=[.ptr 3 0 0]) rfl rfl rfl rfl ?_
  simp
  have hgl0:0<ls.length:=by
   have:=(hG.keys (levL m (gt l 0))).2 (mem_lvls.2 ⟨0,by omega,by omega,rfl⟩)
   obtain⟨e,he,_⟩:=List.mem_map.1 this
   exact List.length_pos_of_mem he
  refine Wf.mono (f161 m ls (by omega) hgl0 (ls.map (·.1)) rfl hG.nd) ?_
  rintro _ H' ⟨ks,k1,k2,rfl⟩
  have kl:ks.length=ls.length:=by
   have a1:=nodup_len k1 (m:=ls.map (·.1)) fun x hx=>(k2 x).1 hx
   have a2:=nodup_len hG.nd (m:=ks) fun x hx=>(k2 x).2 hx
   rw[List.length_map]at a1 a2
   omega
  have ksr:=hG.srt k1 k2
  refine⟨[(2,.ptr 4 0 0)],.ready,by simp[HK],?_⟩
  simp[HK,cutE]
  refine XCall.isF rfl rfl (f160 (l:=ks) (v:=4) (t:=3) (gen:=ks.length-1) (K:=fun d H'=>d = .tup []∧H' = [.row 50 0 [dI m],.map (.int .i64) (esK ls),.row 33 0 (List.replicate ls.length .emp),.row 192 0 [.omap 1],.row 3 (ks.length-1) (cl f1 (lvls m l))]) (by omega) (by omega) (by simp) ⟨rfl,by simp[ksr]⟩) ?_
  rintro _ H' ⟨rfl,rfl⟩
  simp
  have kll:(lvls m l).length=ks.length:=by rw[← ksr,List.length_mergeSort]
  have kcl:(cutL m l).length=ks.length:=by unfold cutL;rw[List.length_map,kll]
  refine XLoop.s (by simp[cutE];rfl) ?_
  refine XLoop.e ((0,0):Int×Nat) (fun y=>[(5,.omap 1),(9,.osl 2 y.2 1 0 y.1.toNat),(37,.osl 4 (ks.length-1) 1 0 ks.length),(38,.i ks.length),(39,.i y.1)]) (fun y=>[.row 50 0 [dI m],.map (.int .i64) (esK ls),.row 33 y.2 (if y.1=0 then List.replicate ls.length .emp else cl fI ((cutL m l).take y.1.toNat)),.row 192 0 [.omap 1],.row 3 (ks.length-1) (cl f1 (lvls m l))]) (fun y=>0≤y.1∧y.1≤ks.length) (fun y=>(ks.length-y.1).toNat) ?_ ?_
  ·simp
  rintro⟨i,gn⟩ ⟨i0,i1⟩
  dsimp only at i0 i1 ⊢
  by_cases hi:i<ks.length
  ·have hmem:=gt_mem (l:=lvls m l) i0 (by omega)
   have hget:=hG.get hmem
   have hcg:gt (cutL m l) i=filt m l (gt (lvls m l) i):=by
    rw[gt_eq i0 (by omega),gt_eq i0 (by omega)]
    unfold cutL
    rw[List.getElem_map]
   have htk:(cutL m l).take (i+1).toNat=(cutL m l).take i.toNat ++ [filt m l (gt (lvls m l) i)]:=by rw[take_gt i0 (by omega),hcg]
   by_cases hz:i=0
   ·subst hz
    rw[if_pos rfl]
    have htk1:(cutL m l).take 1 = [filt m l (gt (lvls m l) 0)]:=htk
    have h00:∀ h,(cl f1 (lvls m l))[0]'h = .i (gt (lvls m l) 0):=fun h=>by
     rw[gt_eq (by omega) (by omega)]
     simp[cl_I]
    simp[hi,kll,hget,cutE,h00]
    (with_reducible repeat' first|refine Xk ?_<;>try simp[hget,kll,cutE,h00]|refine Xs ?_ ?_<;>intro h<;>(try intro h')<;>(try simp[h,hget,kll,cutE,h00])<;>(try omega)|refine Xg ?_|omega)
    refine LJ.i ((1:Int),gn+1) (by first|rfl|simp[htk1,cl_one]) (by first|rfl|simp[htk1,cl_one]) rfl rfl ?_
    exact⟨by omega,by omega,by omega⟩
   ·rw[if_neg hz]
    rw[show(i+1).toNat=i.toNat+1 by omega]at htk
    simp[hi,kll,hget,cutE]
    (with_reducible repeat' first|refine Xk ?_<;>try simp|refine Xs ?_ ?_<;>intro h<;>(try intro h')<;>(try simp[h])<;>(try omega)|refine Xg ?_|omega)
    refine LJ.i (i+1,gn+1) (by first|rfl|simp[show ¬ (i+1=0)by omega,show(i+1).toNat=i.toNat+1 by omega,htk,List.take_take]) (by first|rfl|simp[show ¬ (i+1=0)by omega,show(i+1).toNat=i.toNat+1 by omega,htk,List.take_take]) rfl rfl ?_
    exact⟨by omega,by omega,by omega⟩
  ·have:i=ks.length:=by omega
   subst this
   rw[if_neg (by omega)]
   simp[cutE,kcl]
end
end Go.Proofs.YtnaefnajkaohgaaGreatDoor
