/- Part 42 of the proof of skewer.skewerlaw15.TableAgain. -/
import Derived.Test.YtnaefnajkaohgaaGreatDoorD39
import Derived.Test.YtnaefnajkaohgaaGreatDoorD38
import Derived.Test.YtnaefnajkaohgaaGreatDoorD41
import Derived.Test.YtnaefnajkaohgaaGreatDoorD19
set_option linter.all false
namespace Go.Proofs.YtnaefnajkaohgaaGreatDoor
open Go Go.AL Classical
set_option maxRecDepth 10000
set_option maxHeartbeats 8000000
attribute [-simp] Fv
theorem SH(g:eO)(n:Nat)(v:List eT)(lf:List Int)(p:Pos)(k o x:Int)(h:0≤k∧k<n)(hn:v.length=n) :
  Wf T 53 [.i k,.i o,.i x,.ptr 2 0 0,.ptr 4 0 0] [.row 41 0 g.cells,.row 58 0 (cl fS v),.row 52 0 [.eN 1 0 2 0 n],.row 3 0 (cl f1 lf),.row 33 0 [.emp],.row 44 0 p.cells] (fun d H'=>d = .tup [] ∧
   H' = [.row 41 0 g.cells,.row 58 0 (cl fS (pt v k (o,x))),.row 52 0 [.eN 1 0 2 0 n],.row 3 0 (cl f1 lf),.row 33 0 [.eN 6 0 1 0 1],.row 44 0 p.cells,.row 3 0 [.i k]]):=by
 refine Yg sZ ?_
 simp[sZ]
 (with_reducible repeat' first|refine Xk ?_<;>try simp[mn]|refine Xs ?_ ?_<;>intro h<;>(try intro h')<;>(try simp[h,mn])<;>(try omega)|refine Xg ?_|omega)
 simp only[mn]
 simp[Fv]
theorem Hx(g:eO)(n:Nat)(v:List eT)(lf L:List Int)(γ hh:Nat)(G:U)(hG:G = []∨∃ p:Pos,G = [.row 44 0 p.cells])(k o x:Int)(h:0≤k∧k<n)(hn:v.length=n)(hL2:L.length≤4000)(hh2:hh≤L.length) :
  Wf T 53 [.i k,.i o,.i x,.ptr 2 0 0,.ptr 4 0 0] ([.row 41 0 g.cells,.row 58 0 (cl fS v),.row 52 0 [.eN 1 0 2 0 n],.row 3 0 (cl f1 lf),.row 33 0 [.eN 5 γ 1 hh (L.length-hh)],.row 3 γ (cl f1 L)]++G) (fun d H'=>d = .tup [] ∧
   H' = [.row 41 0 g.cells,.row 58 0 (cl fS (pt v k (o,x))),.row 52 0 [.eN 1 0 2 0 n],.row 3 0 (cl f1 lf),.row 33 0 [.eN 5 (γ+1) 1 0 (L.length-hh+1)],.row 3 (γ+1) (cl f1 (L.drop hh ++ [k]))]++G):=by
 rcases hG with rfl|⟨p,rfl⟩
 ·refine Yg sZ ?_
  simp[sZ]
  (with_reducible repeat' first|refine Xk ?_<;>try simp[mn]|refine Xs ?_ ?_<;>intro h<;>(try intro h')<;>(try simp[h,mn])<;>(try omega)|refine Xg ?_|omega)
  simp only[mn]
  simp[Fv]
 ·refine Yg sZ ?_
  simp[sZ]
  (with_reducible repeat' first|refine Xk ?_<;>try simp[mn]|refine Xs ?_ ?_<;>intro h<;>(try intro h')<;>(try simp[h,mn])<;>(try omega)|refine Xg ?_|omega)
  simp only[mn]
  simp[Fv]
end Go.Proofs.YtnaefnajkaohgaaGreatDoor
namespace Go.Proofs.YtnaefnajkaohgaaGreatDoor
open Go Go.AL Classical
set_option maxRecDepth 10000
set_option maxHeartbeats 16000000
attribute [local simp] HF H5 tp jR
theorem adi(w:Bool)(z:List eT){g:eO}{l:List Pos}{nx:List (List Int)}{part:List Int}{bu:Int}(o:ke g l nx part bu)(m:List Int)(n t:Int)(v:List eT)(b:List Bool)(hn:0≤n∧n≤4000)(ht:0≤t∧t≤40000000)(hv:v.length=l.length)(hb:b.length=l.length)
  {dst:Option Nat} {env:Env} {K:St→Prop} (hk:K { env:=put env dst (.b true),H:=HF w z g l nx m part bu (t+(lD b part bu part.length).1) (rV g l nx part v b n) (rB g l nx part v b n) .ready }) :
  n5 T 11 [.i n] dst { env:=env,H:=HF w z g l nx m part bu t v b .ready } K .mk:=by
 obtain⟨u,hu⟩:∃ u,u=w:=⟨w,rfl⟩
 cases w
 all_goals
  have hp:=o.prt
  have Ur:=Ft b part bu part.length
  have lM:=o.pl
  have xh:=o.len
  refine n5.r (rf:=4992) (env0:=[(3,.ptr 5 0 0),(4,.ptr 6 0 0),(5,.ptr 7 0 0),(9,.ptr 8 0 0)]) (Rd:=wE) (by simp[HF,H5,tp,jR,hu]) rfl rfl wE.a wE.b (mh rfl) (mh rfl) ?_
  simp[wE,HF,H5,tp,jR,hu]
  refine gR.r rfl rfl (f118 v b g l nx part bu (fun i hi=>by rw[hb];exact hp i hi) lM (by omega) o.bu) (by simp[hv,hb]) (by simp[flat]) (by simp) ?_
  simp
  (with_reducible repeat' first|refine Xk ?_<;>try simp|refine Xs ?_ ?_<;>intro h<;>(try intro h')<;>(try simp[h])<;>(try omega)|refine Xg ?_|omega)
  refine eW.s (by simp;rfl) ?_
  refine eW.kg [] true (0:Int) (fun y=>[(3,.ptr 5 0 0),(10,.i n),(11,.omap 12),(46,dI part),(47,.i part.length),(48,.i y)]) (fun y=>HF u z g l nx m part bu (t+(lD b part bu part.length).1) v b .busy ++ [.map (.int .i64) (lH (oa g l nx v b n) ((part.take y.toNat).filter (kc g l nx v b n)))]) (fun y=>0≤y∧y≤part.length) (fun y=>(part.length-y).toNat) ?_ (by simp) (by first|rfl|(simp[gW];done)|(simp[*];done)) rfl rfl rfl ?_
  ·simp
  rintro y ⟨y0,y1⟩
  dsimp only at y0 y1 ⊢
  rw[hu]
  by_cases hy:y<part.length
  ·have fw:=hp _ (eY y0 hy)
   have hx:=o.xI _ fw.1 fw.2
   have NI:gt part y ∉ (part.take y.toNat).filter (kc g l nx v b n):=fun hm=>by
    have h1:=(aI.1 hm).1
    have h2:=o.nd
    rw[← bM y.toNat part,lk y0 hy,a7]at h2
    exact h2.2.2 _ h1 _ (cu ..) rfl
   have nO:kc g l nx v b n (gt part y)=true→kl (lH (oa g l nx v b n) ((part.take y.toNat).filter (kc g l nx v b n))) (.int .i64 (gt part y)) (.agg [.i (jz g (gt l (gt part y)) v b (gt nx (gt part y)) n).1.1,.i (jz g (gt l (gt part y)) v b (gt nx (gt part y)) n).1.2])=lH (oa g l nx v b n) ((part.take (y+1).toNat).filter (kc g l nx v b n)):=fun h=>by
    rw[gx y0 hy,cv,eu h,cK]
    exact OZ NI
   have ng:kc g l nx v b n (gt part y)=false→(part.take (y+1).toNat).filter (kc g l nx v b n)=(part.take y.toNat).filter (kc g l nx v b n):=fun h=>by
    rw[gx y0 hy,cv,ew (by rw[h];decide),cK,aw]
   simp[hy,HF,H5,tp,jR,hu]
   (with_reducible repeat' first|refine Xk ?_<;>try simp|refine Xs ?_ ?_<;>intro h<;>(try intro h')<;>(try simp[h])<;>(try omega)|refine Xg ?_|omega)
   refine fr.r rfl rfl (f119 g o.gm l o.ps v b nx (gt part y) n fw hn o.Xb hx.1 hv hb hx.2) (by simp[hv,hb]) (by simp[flat,se]) (by simp) ?_
   simp
   (with_reducible repeat' first|refine Xk ?_<;>try simp|refine Xs ?_ ?_<;>intro h<;>(try intro h')<;>(try simp[h])<;>(try omega)|refine Xg ?_|omega)
   ·refine LJ.i (y+1) (by first|rfl|simp[nO (by simp[kc, *])]) (by first|rfl|simp[nO (by simp[kc, *])]) (by first|rfl|simp[nO (by simp[kc, *])]) (by first|rfl|simp[nO (by simp[kc, *])]) ?_
    omega
   ·refine LJ.i (y+1) (by first|rfl|simp[ng (by simp[kc, *])]) (by first|rfl|simp[ng (by simp[kc, *])]) (by first|rfl|simp[ng (by simp[kc, *])]) (by first|rfl|simp[ng (by simp[kc, *])]) ?_
    omega
   ·refine LJ.i (y+1) (by first|rfl|simp[ng (by simp[kc, *])]) (by first|rfl|simp[ng (by simp[kc, *])]) (by first|rfl|simp[ng (by simp[kc, *])]) (by first|rfl|simp[ng (by simp[kc, *])]) ?_
    omega
  ·have Vl:y=part.length:=by omega
   subst Vl
   simp[HF,H5,tp,jR,hu]
   unfold rV rB lX at hk
   have mu:∀ i∈part.filter (kc g l nx v b n),0≤i∧i<l.length:=fun i hi=>hp i (aI.1 hi).1
   refine eW.s (by simp;rfl) ?_
   generalize part.filter (kc g l nx v b n)=ds at *
   refine eW.kg [] true ([]:List Nat) (fun y=>[(3,.ptr 5 0 0),(75,.ptr 13 0 0)]) (fun y=>HF u z g l nx m part bu (t+(lD b part bu part.length).1) (iX v (oa g l nx v b n) (gk ds y)) (iX b (fun _=>false) (gk ds y)) .busy ++ [.map (.int .i64) (lH (oa g l nx v b n) ds),.jt (.omap 12) ds.length y]) (fun y=>y.Nodup∧∀ j∈y,j<ds.length) (fun y=>ds.length-y.length) ?_ (by simp) (by first|rfl|(simp[gW];done)|(simp[*];done)) rfl rfl rfl ?_
   ·simp[gk]
   rintro ys ⟨mP,fj⟩
   dsimp only at mP fj ⊢
   rw[hu]
   simp[HF,H5,tp,jR,hu]
   refine rO.at (m:=12) (since:=ds.length) (seen:=ys) (kk:=.int .i64) (es:=lH (oa g l nx v b n) ds) (by simp) (by simp) (by simp) (fun gy=>?_) fun i k d he hi=>?_
   ·rw[Sm]at gy
    simp
    rw[PA (v:=v) (r:=gk ds ys) (r':=ds) (by rw[hv];exact Es mu fj) (O3 fj gy),PA (v:=b) (r:=gk ds ys) (r':=ds) (by rw[hb];exact Es mu fj) (O3 fj gy)]
    exact hk
   ·obtain⟨kZ,rfl,rfl⟩:=Sl he
    have fw:=mu _ (eY (l:=ds) (n:=(i:Int)) (by omega) (by omega))
    have ib:=oz (oa g l nx v b n) (gk ds ys) v (by rw[hv];exact Es mu fj)
    have gS:=oz (fun _=>false) (gk ds ys) b (by rw[hb];exact Es mu fj)
    simp[he,mn]
    (with_reducible repeat' first|refine Xk ?_<;>try simp[ib,gS,hv,hb,mn]|refine Xs ?_ ?_<;>intro h<;>(try intro h')<;>(try simp[h,ib,gS,hv,hb,mn])<;>(try omega)|refine Xg ?_|omega)
    refine LJ.i (ys ++ [i]) (by first|rfl|simp[mn,Et,sP]) (by first|rfl|simp[mn,Et,sP]) (by first|rfl|simp[mn,Et,sP]) (by first|rfl|simp[mn,Et,sP]) ?_
    refine⟨?_,?_,fun j hj=>?_⟩
    ·have UE:(ys ++ [i]).Nodup:=by
      rw[a7]
      exact⟨mP,by simp,fun a ha b hb e=>hi (by rw[List.mem_singleton.1 hb]at e;exact e▸ha)⟩
     have:=xG UE (m:=List.range ds.length) fun x hx=>by
      rcases List.mem_append.1 hx with hx|hx
      ·exact bx.2 (fj x hx)
      ·rw[List.mem_singleton.1 hx];exact bx.2 kZ
     simp at this ⊢
     omega
    ·rw[a7]
     exact⟨mP,by simp,fun a ha b hb e=>hi (by rw[List.mem_singleton.1 hb]at e;exact e▸ha)⟩
    ·rcases List.mem_append.1 hj with hj|hj
     ·exact fj j hj
     ·rw[List.mem_singleton.1 hj];exact kZ
end Go.Proofs.YtnaefnajkaohgaaGreatDoor
namespace Go.Proofs.YtnaefnajkaohgaaGreatDoor
open Go Go.AL Classical
set_option maxRecDepth 10000
set_option maxHeartbeats 16000000
attribute [local simp] HF H5 tp jR
theorem p6.s{T:gb}{rf:Nat}{live:List Nat}{x:X}{s s':St}{K:gv}(hs:s=s')(h:p6 T rf live x s' K .mk):p6 T rf live x s K .mk:=by subst hs;exact h
section
variable{g:eO}{l:List Pos}{nx:List (List Int)}{part:List Int}{bu:Int}
theorem f162(w:Bool)(z:List eT)(o:ke g l nx part bu)(m:List Int)(v:List eT)(b:List Bool)(hv:v.length=l.length)(hb:b.length=l.length) :
  Wf T 162 [.gO 11,.ptr 9 0 0] (HF w z g l nx m part bu 0 v b .ready) (fun _ H'=>H'=HF w z g l nx m part bu (iF g l nx part bu 4001 0 v b 0).1 (iF g l nx part bu 4001 0 v b 0).2.1 (iF g l nx part bu 4001 0 v b 0).2.2 .ready):=by
 obtain⟨u,hu⟩:∃ u,u=w:=⟨w,rfl⟩
 cases w
 all_goals
  have xh:=o.len
  generalize hR:iF g l nx part bu 4001 0 v b 0=R
  refine Yg B4 ?_
  simp[B4]
  refine eW.e ((0,v,b,0):Int×List eT×List Bool×Int) (fun y=>[(0,.gO 11),(1,.ptr 9 0 0),(3,.i y.1)]) (fun y=>HF u z g l nx m part bu y.2.2.2 y.2.1 y.2.2.1 .ready) (fun y=>0≤y.1∧y.1≤4000∧y.2.1.length=l.length∧y.2.2.1.length=l.length∧0≤y.2.2.2∧y.2.2.2≤y.1*4000∧iF g l nx part bu (4001-y.1).toNat y.1 y.2.1 y.2.2.1 y.2.2.2=R) (fun y=>(4001-y.1).toNat) ?_ ?_
  ·exact⟨by simp,by simp,hv,hb,by simp,by simp,hR⟩
  rintro⟨n,v1,b1,t⟩ ⟨n0,n1,jP,sh,t0,t1,hr⟩
  dsimp only at n0 n1 jP sh t0 t1 hr ⊢
  rw[hu]
  have Ur:=Ft b1 part bu part.length
  have lM:=o.pl
  have e1:=xS o jP sh (n:=n)
  have e2:=xR o (v:=v1) sh (n:=n)
  rw[show(4001-n).toNat=(4000-n).toNat+1 by omega,iF,jP,← e1]at hr
  simp[-HF]
  refine adi _ z o m n t v1 b1 ⟨n0,n1⟩ ⟨t0,by omega⟩ jP sh ?_
  generalize rV g l nx part v1 b1 n=v2 at *
  generalize rB g l nx part v1 b1 n=b2 at *
  generalize (lD b1 part bu part.length).1=q at *
  simp[HF,H5,tp,jR,hu]
  refine fr.r rfl rfl (f163 v2 b2 g l nx (by omega) (by omega)) (by simp[e1,e2]) (by simp[flat]) (by simp) ?_
  simp
  (with_reducible repeat' first|refine Xk ?_<;>try simp|refine Xs ?_ ?_<;>intro h<;>(try intro h')<;>(try simp[h])<;>(try omega)|refine Xg ?_|omega)
  ·rw[if_pos ⟨by assumption,by assumption⟩]at hr
   refine LJ.i (n+1,v2,b2,t+q) (by first|rfl|simp[HF,H5,tp,jR,hu]) (by first|rfl|simp[HF,H5,tp,jR,hu]) rfl rfl ?_
   dsimp only
   refine⟨by omega,by omega,by omega,e1,e2,by omega,by omega,?_⟩
   rw[show(4001-(n+1)).toNat=(4000-n).toNat by omega]
   exact hr
  ·rw[if_neg (fun c=>absurd c.2 (by assumption))]at hr
   subst hr
   exact⟨rfl,rfl,rfl⟩
  ·rw[if_neg (fun c=>absurd c.1 (by omega))]at hr
   subst hr
   exact⟨rfl,rfl,rfl⟩
theorem f78(w:Bool)(z:List eT)(o:ke g l nx part bu)(m:List Int)(v:List eT)(b:List Bool)(hv:v.length=l.length)(hb:b.length=l.length) :
  Wf T 78 [tp w,dI part,.i bu] (H5 w z g l nx m v b)
   (fun d H'=>d = .i (jM g l nx part bu v b).1∧H'=H5 w z g l nx m (jM g l nx part bu v b).2.1 (jM g l nx part bu v b).2.2):=by
 obtain⟨u,hu⟩:∃ u,u=w:=⟨w,rfl⟩
 cases w
 all_goals
  have hp:=o.prt
  have lM:=o.pl
  have xh:=o.len
  refine Yg Dd ?_
  simp[Dd,H5,tp,jR,hu]
  refine eW.e (0:Int) (fun y=>[(3,.ptr 5 0 0),(4,.ptr 6 0 0),(5,.ptr 7 0 0),(20,dI part),(21,.i part.length),(22,.i y)]) (fun y=>H5 u z g l nx m v (iX b (fun _=>true) (part.take y.toNat)) ++ [.row 139 0 [tp u],.row 33 0 [dI part],.row 3 0 [.i bu]]) (fun y=>0≤y∧y≤part.length) (fun y=>(part.length-y).toNat) ?_ ?_
  ·simp[iX]
  rintro i ⟨i0,i1⟩
  dsimp only at i0 i1 ⊢
  rw[hu]
  by_cases hi:i<part.length
  ·have fw:=hp _ (eY i0 hi)
   have hl:=oz (fun _=>true) (part.take i.toNat) b fun j hj=>by rw[hb];exact hp j (aM hj)
   simp[hi,H5,tp,jR,hu]
   (with_reducible repeat' first|refine Xk ?_<;>try simp[hl,hb]|refine Xs ?_ ?_<;>intro h<;>(try intro h')<;>(try simp[h,hl,hb])<;>(try omega)|refine Xg ?_|omega)
   refine LJ.i (i+1) (by first|rfl|simp[H5,tp,jR,hu,gx i0 hi,sP]) (by first|rfl|simp[H5,tp,jR,hu,gx i0 hi,sP]) rfl rfl ?_
   omega
  ·have:i=part.length:=by omega
   subst this
   simp[H5,tp,jR,hu]
   refine fr.inl yj rfl rfl (by simp[yj]) rfl ?_
   simp[yj]
   refine p6.s (by simp;rfl) ?_
   refine p6.r (f:=162) (first:=[]) (cap:=[.ptr 9 0 0]) rfl rfl rfl rfl ?_
   simp
   have HO:=f162 u z o m v (iX b (fun _=>true) part) hv (by rw[oz _ _ _ (by rw[hb];exact hp),hb])
   rw[hu]at HO
   have gT:=(F3 o bu 4001 0 v (iX b (fun _=>true) part) 0 hv (by rw[oz _ _ _ (by rw[hb];exact hp),hb])).1
   unfold jM
   dsimp only
   generalize iF g l nx part bu 4001 0 v (iX b (fun _=>true) part) 0=r at *
   obtain⟨t,v1,b1⟩:=r
   obtain⟨jP,sh⟩:=gT
   dsimp only at jP sh HO ⊢
   refine Wf.mono HO ?_
   rintro _ H' rfl
   refine⟨[(3,.ptr 5 0 0),(4,.ptr 6 0 0),(5,.ptr 7 0 0),(9,.ptr 8 0 0)],.ready,by simp[HF,H5,tp,jR,hu],?_⟩
   simp[HF,H5,tp,jR,hu]
   refine eW.s (by simp;rfl) ?_
   refine eW.kg [10] false (0:Int) (fun y=>[(3,.ptr 5 0 0),(9,.ptr 8 0 0),(96,dI part),(97,.i part.length),(98,.i y)]) (fun y=>H5 u z g l nx m (ky (part.take y.toNat) v1 b1).1 (ky (part.take y.toNat) v1 b1).2 ++ [.row 139 0 [tp u],.row 33 0 [dI part],.row 3 0 [.i bu],.row 3 0 [.i t],.row 139 0 [tp u],.jL]) (fun y=>0≤y∧y≤part.length) (fun y=>(part.length-y).toNat) ?_ (by simp) (by first|rfl|(simp[gW];done)|(simp[*];done)) rfl rfl rfl ?_
   ·simp
   rintro y ⟨y0,y1⟩
   dsimp only at y0 y1 ⊢
   rw[hu]
   by_cases hy:y<part.length
   ·have fw:=hp _ (eY y0 hy)
    have ot:∀ i∈(part.take y.toNat).filter (fun i=>gt b1 i),0≤i∧i<l.length:=fun i hi=>hp i (aM (aI.1 hi).1)
    have ib:(ky (part.take y.toNat) v1 b1).1.length=l.length:=by unfold ky;rw[oz _ _ _ (by rw[jP];exact ot),jP]
    have gS:(ky (part.take y.toNat) v1 b1).2.length=l.length:=by unfold ky;rw[oz _ _ _ (by rw[sh];exact ot),sh]
    have EK:gt (ky (part.take y.toNat) v1 b1).2 (gt part y)=gt b1 (gt part y):=by
     unfold ky
     dsimp only
     rw[sf _ _ _ (by rw[sh];exact ot) _ fw.1 (by omega),if_neg fun hm=>?_]
     have h1:=(aI.1 hm).1
     have h2:=o.nd
     rw[← bM y.toNat part,lk y0 hy,a7]at h2
     exact h2.2.2 _ h1 _ (cu ..) rfl
    have zV:gt b1 (gt part y)=true→ky (part.take (y+1).toNat) v1 b1=(pt (ky (part.take y.toNat) v1 b1).1 (gt part y) (2,0),pt (ky (part.take y.toNat) v1 b1).2 (gt part y) false):=fun h=>by
     unfold ky
     rw[gx y0 hy,cv,eu h,cK,sP,sP]
    have ng:gt b1 (gt part y)=false→ky (part.take (y+1).toNat) v1 b1=ky (part.take y.toNat) v1 b1:=fun h=>by
     unfold ky
     rw[gx y0 hy,cv,ew (by rw[h];decide),cK,aw]
    generalize hF:ky (part.take y.toNat) v1 b1=F at *
    obtain⟨v2,b2⟩:=F
    dsimp only at ib gS EK zV ng ⊢
    simp[hy,H5,tp,jR,hu,hF,ib,gS,EK]
    (with_reducible repeat' first|refine Xk ?_<;>try simp[ib,gS,EK,mn]|refine Xs ?_ ?_<;>intro h<;>(try intro h')<;>(try simp[h,ib,gS,EK,mn])<;>(try omega)|refine Xg ?_|omega)
    ·refine LJ.i (y+1) (by first|rfl|simp[H5,tp,jR,hu,zV h]) (by first|rfl|simp[H5,tp,jR,hu,zV h]) (by first|rfl|simp[H5,tp,jR,hu,zV h]) (by first|rfl|simp[H5,tp,jR,hu,zV h]) ?_
     omega
    ·refine LJ.i (y+1) (by first|rfl|simp[H5,tp,jR,hu,ng h]) (by first|rfl|simp[H5,tp,jR,hu,ng h]) (by first|rfl|simp[H5,tp,jR,hu,ng h]) (by first|rfl|simp[H5,tp,jR,hu,ng h]) ?_
     omega
   ·have:y=part.length:=by omega
    subst this
    simp[H5,tp,jR,hu]
