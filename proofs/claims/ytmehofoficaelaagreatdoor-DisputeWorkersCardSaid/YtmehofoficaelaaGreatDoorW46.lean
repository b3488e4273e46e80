/- Part 46 of DisputeWorkers. -/
import Derived.Test.YtmehofoficaelaaGreatDoorW45
set_option linter.all false
namespace Go.Proofs.YtmehofoficaelaaGreatDoor
open Go Go.AL Classical
set_option maxRecDepth 10000
set_option maxHeartbeats 32000000
theorem adG(V:List fZ)(h0:0<V.length):Wf T 21 [.gg,gY V] [] (Is (.b false)):=by
 have a:(0:Int)<V.length:=by omega
 have hV:¬V = []:=ax.1 h0;refine Yg CW ?_;simp[CW];refine gj.e (0:Int) (λy=>[(0,.gg),(1,gY V),(5,.i y)]) (λy=>[]) (λy=>y=0) (λy=>0) ?_ ?_
 .simp
 rintro y rfl;simp[a,hV,h0];refine gj.e (0:Int) (λy=>[(0,.gg),(1,gY V),(5,.i 0),(6,.b false),(7,.i y)]) (λy=>[]) (λy=>y=0) (λy=>0) ?_ ?_
 .simp
 rintro y rfl;simp
theorem P4(R:List Cw):xY R = .sl 36 (R.map gR)\/(R = []/\xY R = .gg):=by
 unfold xY
 by_cases h:R = []
 .exact .inr ⟨h,if_pos h⟩
 .exact .inl (if_neg h)
theorem ac5(R:List Cw):closed (xY R)=true:=by
 rcases P4 R with h|⟨_,h⟩
 .rw[h];exact wP R
 .rw[h];rfl
theorem adF(R:List Cw)(d:∀x∈R,x.ok)(f:R.length<=100)(V:List fZ)(h0:0<V.length)(e:V.length<=64):Wf T 21 [xY R,gY V] [] (Is (.b (decide (Gi R V)))):=by
 rcases P4 R with h|⟨b,h⟩
 .rw[h];exact adE R d (by omega) V e
 .rw[h,decide_eq_false]
  .exact adG V h0
  .intro c;obtain⟨x,a,_⟩:=c 0 (by omega) (by omega);rw[b]at a;cases a
theorem adA(x:qv)(j:Jh x)(ws:List B5)(H:∀y∈ws,y.ok)(c:Int)(hc:0<=c/\c<256) :
  Wf T 11 [.agg x.cells,.sl 5 (ws.map f5),.val (.int .u8 c)] [] (Is (.b true)):=by
 have z:x.cells.length=31:=by simp[qv.cells,Raw.cells,j.len]
 have Sg:gF x.cells=true:=by have:=Vl x;simpa using this
 have nu:=aeI x j;generalize x.cells=xs at *;obtain⟨X,rfl⟩:=V5 Sg;rw[qJ,eV]at z;have F:X.take 31=X:=af (by omega);refine Yg Jl ?_;simp[Jl,z,F];refine Yc (adI) ?_;simp;refine lh z F ?_;simp[z,F];refine gx.q rfl rfl nu (by simp) (λy=>by obtain⟨g,p,b,l⟩:=y;cases b<;>simp[gF]) ?_;rintro⟨g,p,b,l⟩ ⟨hg,hp,L⟩;cases b
 .simp
 dsimp only at hg hp L;have BH:=(L rfl).1;have QO:=(L rfl).2;have G0:=BH.c2;have h0:=BH.len.1;have c1:=BH.len.2;have gH:=λi i0 B=>(ru G0 (i:=i) i0 B).2;simp;(with_reducible repeat' first|refine Xk ?_<;>try simp|refine Xs ?_ ?_<;>intro h<;>(try intro d)<;>(try simp[h])<;>try omega|refine Xg ?_|omega);refine Yq (aeK g hg l G0 h0) λy hy=>?_;obtain⟨V,W⟩:=y;obtain⟨Xn,D⟩:=hy;dsimp only at Xn D
 have GV:∀k:Int,0<=k->k<V.length->0<=(gt V k).2/\(gt V k).2<=4000:=λk k0 k1=>by have:=ahh (A:=jT g l (gC g l)) (v:=V) (n:=l.length) gH D (i:=k) k0 (by omega);omega
 have I:∀r∈V,r.2<=4000:=λr hr=>by obtain⟨k,k0,k1,rfl⟩:=wm.1 hr;exact(GV k k0 k1).2
 have XS:FE (jT g l (gC g l)) l.length V:=⟨Xn,gH,D,λi i0 B=>kA.lC (λo=>aot hg o) (D i i0 B)⟩;have Y:0<V.length:=by omega
 have u:V.length<=64:=by omega
 simp;(with_reducible repeat' first|refine Xk ?_<;>try simp|refine Xs ?_ ?_<;>intro h<;>(try intro d)<;>(try simp[h])<;>try omega|refine Xg ?_|omega);have cS:=adB ws H
 have E:∀w∈(ws.take 8).map B5.wk,w.ok:=λw hw=>by obtain⟨x,_,rfl⟩:=ar.1 hw;exact aoJ _
 have G:((ws.take 8).map B5.wk).length<=8:=by simp;omega
 obtain⟨S,hS⟩:∃S,(ws.take 8).map B5.wk=S:=⟨_,rfl⟩;rw[hS]at E G cS;refine Yc (cS) ?_;simp;have q:IntKind.i64.wrap c=c:=o9 iy;have e:gA c 4=c % 4:=jH hc.1;have z8:0<=c % 4:=bL _ (by omega);have tQ:c % 4<4:=bE _ (by omega);obtain⟨k,m⟩:∃k,1+c % 4=k:=⟨_,rfl⟩;have NN:1<=k:=by omega
 have XQ:k<=4000:=by omega
 refine gj.s (by simp;rfl) ?_;refine gj.e (0:Int) (λy=>[(2,.val (.int .u8 c)),(7,.b true),(8,.ptr 1 0 0),(9,gY V),(10,.sl 5 (S.map oP)),(11,.i y)]) (λy=>[.row 32 0 (cl fC X),.row 49 0 (g.cells++(p.cells ++ [gZ l,.b true]))]) (λy=>0<=y/\y<=6) (λy=>(6-y).toNat) ?_ ?_
 .simp
 rintro t ⟨t0,t1⟩;dsimp only at t0 t1 ⊢
 by_cases C:t<6
 .obtain⟨R,K⟩:∃R,ry S V (n9 V.length (min k V.length).toNat 0) t S.length=R:=⟨_,rfl⟩;have J:(if k<1 then []else ry S V (n9 V.length (min k V.length).toNat 0) t S.length)=R:=by rw[if_neg (by omega),K]
  have ya:=zz (n:=V.length) (k:=(min k V.length).toNat) (a:=0) (by omega) (by omega);have Bw:=Dw (n:=V.length) (k:=(min k V.length).toNat) (a:=0);have gf:=aaC (t:=t) E ya (by omega) u I S.length (Nat.le_refl _);have zP:=OS (ws:=S) (v:=V) (P:=n9 V.length (min k V.length).toNat 0) (t:=t) S.length;rw[K]at gf zP;have Q2:∀x∈R,x.ok:=λx j=>(gf x j).1.ok;have vA:∀x∈R,∀r∈x.c.es,r.2<=4000:=λx j=>(gf x j).1.b;have Q:=adC S V k t E G Y u NN XQ K;have M:=adN S V k t E G Y u (by omega) XQ J;have N:=adM R Q2 (by omega);have s:=adJ g hg l G0 h0 (by omega) (P4 R) Q2 vA (by omega);have PK:=adF R Q2 (by omega) V Y u;have f:=ac5 R;clear gf vA;simp[C,q,e,m];(with_reducible repeat' first|refine Xk ?_<;>try simp[C,q,e,m]|refine Xs ?_ ?_<;>intro h<;>(try intro d)<;>(try simp[h,C,q,e,m])<;>try omega|refine Xg ?_|omega);refine Yc Q ?_ rfl rfl (by simp) f;simp[q,e,m];(with_reducible repeat' first|refine Xk ?_<;>try simp[q,e,m]|refine Xs ?_ ?_<;>intro h<;>(try intro d)<;>(try simp[h,q,e,m])<;>try omega|refine Xg ?_|omega);refine Go.AL.gx.n rfl rfl M (by simp) (by simp) ?_;simp;(with_reducible repeat' first|refine Xk ?_<;>try simp|refine Xs ?_ ?_<;>intro h<;>(try intro d)<;>(try simp[h])<;>try omega|refine Xg ?_|omega);refine gx.r rfl rfl N (by simp[f,qt]) (by simp[flat]) (by simp) ?_;simp;(with_reducible repeat' first|refine Xk ?_<;>try simp|refine Xs ?_ ?_<;>intro h<;>(try intro d)<;>(try simp[h])<;>try omega|refine Xg ?_|omega);obtain⟨U,Z⟩:∃U,tu (jT g l (gC g l)) l.length (jn l.length) (cs R)=U:=⟨_,rfl⟩;rw[Z]at s;obtain⟨_|v,o⟩:=U
  .have zU:decide (Gi R V)=false:=decide_eq_false λh=>by
    have:=aor XS (cl:=cs R) λi i0 B=>by obtain⟨x,h1,h2,h3⟩:=h i i0 (by omega);exact⟨x.c,ar.2 ⟨x,h1,rfl⟩,h3,h2⟩
    rw[Z]at this;cases this
   rw[zU]at PK;simp only[xy]at s;refine Yc s ?_ rfl rfl (by simp[f]) (by simp);simp;refine Yc PK ?_ rfl rfl (by simp[f]) (by simp);simp;(with_reducible repeat' first|refine Xk ?_<;>try simp|refine Xs ?_ ?_<;>intro h<;>(try intro d)<;>(try simp[h])<;>try omega|refine Xg ?_|omega);refine LJ.e (t+1) ?_;omega
  .obtain rfl:=aos XS Z;have O:=aeO v (by omega);simp only[xy]at s;refine Yc s ?_ rfl rfl (by simp[f]) (by simp);simp;refine Yc O ?_;simp;(with_reducible repeat' first|refine Xk ?_<;>try simp|refine Xs ?_ ?_<;>intro h<;>(try intro d)<;>(try simp[h])<;>try omega|refine Xg ?_|omega);refine Yc PK ?_ rfl rfl (by simp[f]) (by simp);cases decide (Gi R v)
   .simp;(with_reducible repeat' first|refine Xk ?_<;>try simp|refine Xs ?_ ?_<;>intro h<;>(try intro d)<;>(try simp[h])<;>try omega|refine Xg ?_|omega);refine LJ.e (t+1) ?_;omega
   .simp;(with_reducible repeat' first|refine Xk ?_<;>try simp|refine Xs ?_ ?_<;>intro h<;>(try intro d)<;>(try simp[h])<;>try omega|refine Xg ?_|omega);refine LJ.e (t+1) ?_;omega
 .simp[C]
