/- Part 45 of the proof of skewer.skewerlaw15.TableLoads. -/
import Derived.Test.YtnaefnajkaohgaaGreatDoorB44
import Derived.Test.YtnaefnajkaohgaaGreatDoorB32
set_option linter.all false
namespace Go.Proofs.YtnaefnajkaohgaaGreatDoor
open Go Go.AL Classical
set_option maxRecDepth 10000
set_option maxHeartbeats 16000000
theorem wrap8{n:Int}(h:0≤n∧n<256):IntKind.i64.wrap n=n:=wrapI64 ⟨by omega,by omega⟩
theorem mkR_len{g:Game}{l:List Pos}{m:List Int}(hg:GameOK g)(hc:Closed2 g l){bu:Int}(hb:1≤bu∧bu≤9223372036854775807):∀ (ps:List (List Int)) (_:∀ p∈ps,p∈cutL m l) (v:List Stp) (b:List Bool) (t:Int),v.length=l.length→b.length=l.length→(mkR g l (nextI g l) bu ps v b t).2.1.length=l.length
 | [],_,v,b,t,hv,_=>hv
 | p::ps,h,v,b,t,hv,hbl=>by
  have o:=(fillR_out (fok hg hc hb (h p (by simp))) bu hv hbl).1
  rw[mkR]
  exact mkR_len hg hc hb ps (fun q hq=>h q (by simp[hq])) _ _ _ o.1 o.2
theorem mkT_in{g:Game}{l:List Pos}{m:List Int}{n:Int}(hg:GameOK g)(hc:Closed2 g l)(hn:1≤n∧n≤9223372036854775807):(mkT g l m n).2.1.length=l.length∧True:=
 ⟨mkR_len hg hc hn (cutL m l) (fun p hp=>hp) _ _ 0 (by simp) (by simp),trivial⟩
theorem f4(x:Big)(hx:BigOK x)(a0 a1 a2 a3 a4 a5:Int)(ha:∀ n∈[a0,a1,a2,a3,a4,a5],0≤n∧n<256):Wf T 4 [.agg x.cells,dW [a0,a1,a2,a3,a4,a5]] [] (Is (.b true)):=by
 have hxl:x.cells.length=31:=by simp[Big.cells,Raw.cells,hx.len]
 have hxc:closedL x.cells=true:=by have:=closed_big x;simpa using this
 have c12:=f12 x hx
 generalize x.cells=xs at *
 have htk:xs.take 31=xs:=List.take_of_length_le (by omega)
 refine Yg F4 ?_
 simp[F4,dW,hxl,htk]
 refine Yc (f11) ?_
 simp
 (with_reducible repeat' first|refine Xk ?_<;>try simp[hxl,htk]|refine Xs ?_ ?_<;>intro h<;>(try intro h')<;>(try simp[h,hxl,htk])<;>(try omega)|refine Xg ?_|omega)
 simp[hxl,htk]
 refine XCall.q rfl rfl c12 (by simp[hxc]) (fun y=>by obtain⟨g,p,b,l⟩:=y;cases b<;>simp[closedL]) ?_
 rintro⟨g,p,b,l⟩ ⟨hg,hp,hcl⟩
 cases b
 ·simp
 dsimp only at hg hp hcl
 have hc1:=hcl rfl
 have hc:=hc1.c2
 have h0:=hc1.len.1
 have h80:=hc1.len.2
 have c13:=f13m g hg a0 a1 a2 a3 a4 a5 ha
 simp only[dW,List.map]at c13
 simp
 have w3:=wrap8 (ha a3 (by simp))
 have w4:=wrap8 (ha a4 (by simp))
 have b3:=ha a3 (by simp)
 have b4:=ha a4 (by simp)
 have r3:=remI_eq (a:=a3) (b:=20) b3.1
 have r4:=remI_eq (a:=a4) (b:=5) b4.1
 have hn:1≤1+remI (IntKind.i64.wrap a3) 20∧1+remI (IntKind.i64.wrap a3) 20≤20:=by rw[w3,r3];omega
 have hk:1≤1+remI (IntKind.i64.wrap a4) 5∧1+remI (IntKind.i64.wrap a4) 5≤5:=by rw[w4,r4];omega
 refine Yv (c13) fun m hm=>?_
 simp
 have hmo:=hm.ok
 generalize 1+remI (IntKind.i64.wrap a3) 20=n at *
 (with_reducible repeat' first|refine Xk ?_<;>try simp|refine Xs ?_ ?_<;>intro h<;>(try intro h')<;>(try simp[h])<;>(try omega)|refine Xg ?_|omega)
 refine Yt (f18m g hg l hc h0 m hmo n ⟨by omega,by omega⟩) ?_
 simp
 (with_reducible repeat' first|refine Xk ?_<;>try simp|refine Xs ?_ ?_<;>intro h<;>(try intro h')<;>(try simp[h])<;>(try omega)|refine Xg ?_|omega)
 generalize 1+remI (IntKind.i64.wrap a4) 5=k at *
 have hnk:1≤n*k:=Int.mul_le_mul hn.1 hk.1 (by omega) (by omega)
 have hnk2:n*k≤20*5:=Int.mul_le_mul hn.2 hk.2 (by omega) (by omega)
 have q1:=mkT_mul (g:=g) (m:=m) (l:=l) (by omega) hn.1 hk.1
 have q2:=mkT_big (g:=g) (m:=m) h80 hnk
 have q3:=mkT_bound (m:=m) hg hc h80
 have q4:(mkT g l m n).2.1=(mkT g l m 4000).2.1:=congrArg Prod.fst (mkT_v n 4000)
 have q5:(mkT g l m (n*k)).2.1=(mkT g l m 4000).2.1:=congrArg Prod.fst (mkT_v (n*k) 4000)
 have q7:=cutL_len m l
 have q8:(0:Int)≤(cutL m l).length*(l.length+3:Int):=Int.mul_nonneg (by omega) (by omega)
 have q9:(cutL m l).length*(l.length+3:Int)≤80*83:=Int.mul_le_mul (by omega) (by omega) (by omega) (by omega)
 have q6:=(mkT_in hg hc (m:=m) (n:=4000) (by omega)).1
 (with_reducible repeat' first|refine Xk ?_<;>try simp|refine Xs ?_ ?_<;>intro h<;>(try intro h')<;>(try simp[h])<;>(try omega)|refine Xg ?_|omega)
 refine Yt (f18m g hg l hc h0 m hmo (n*k) ⟨by omega,by omega⟩) ?_
 simp
 (with_reducible repeat' first|refine Xk ?_<;>try simp|refine Xs ?_ ?_<;>intro h<;>(try intro h')<;>(try simp[h])<;>(try omega)|refine Xg ?_|omega)
 refine Yt (f18m g hg l hc h0 m hmo 4000 ⟨by omega,by omega⟩) ?_
 simp
 refine Yc (f23 hg hmo hc.ok hc.len) ?_
 simp[q4,q5]
 have c24:=f24s (mkT g l m 4000).2.1 (by omega)
 generalize (mkT g l m 4000).2.1=V at *
 generalize (mkT g l m 4000).1=T1 at *
 generalize (mkT g l m n).1=T2 at *
 generalize (mkT g l m (n*k)).1=T3 at *
 (with_reducible repeat' first|refine Xk ?_<;>try simp|refine Xs ?_ ?_<;>intro h<;>(try intro h')<;>(try simp[h])<;>(try omega)|refine Xg ?_|omega)
 rw[q4,q5]
 refine Yc (c24) ?_
 simp
 (with_reducible repeat' first|refine Xk ?_<;>try simp|refine Xs ?_ ?_<;>intro h<;>(try intro h')<;>(try simp[h])<;>(try omega)|refine Xg ?_|omega)
 refine Yc (c24) ?_
 simp
 (with_reducible repeat' first|refine Xk ?_<;>try simp|refine Xs ?_ ?_<;>intro h<;>(try intro h')<;>(try simp[h])<;>(try omega)|refine Xg ?_|omega)
end Go.Proofs.YtnaefnajkaohgaaGreatDoor
