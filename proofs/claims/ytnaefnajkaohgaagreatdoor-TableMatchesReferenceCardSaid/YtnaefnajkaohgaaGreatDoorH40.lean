/- 40 -/
import Derived.Test.YtnaefnajkaohgaaGreatDoorH39
set_option linter.all false
namespace Go.Proofs.YtnaefnajkaohgaaGreatDoor
open Go Go.AL Classical
set_option maxRecDepth 10000
set_option maxHeartbeats 8000000
attribute [-simp] Ip
def jY(L L':List Int):Prop:=L'.length=L.length∧∀ x,x∈L'↔x∈L
def jY.refl(L:List Int):jY L L:=⟨rfl,fun _=>dh⟩
theorem jY.trans{L M N:List Int}(h:jY L M)(h':jY M N):jY L N:=⟨h'.1.trans h.1,fun x=>(h'.2 x).trans (h.2 x)⟩
def jY.swap{L:List Int}{i j:Int}(i0:0≤i)(i1:i<L.length)(j0:0≤j)(j1:j<L.length):jY L (pt (pt L i (gt L j)) j (gt L i)):=by
 have l1:=gN (v:=gt L j) i0 i1
 have l2:=gN (l:=pt L i (gt L j)) (v:=gt L i) j0 (by omega)
 have hg:∀ k:Int,0≤k→gt (pt (pt L i (gt L j)) j (gt L i)) k=if k=j then gt L i else if k=i then gt L j else gt L k:=fun k k0=>by
  rw[pz j0 (by omega) k0,pz i0 i1 k0]
 refine⟨by omega,fun x=>⟨fun h=>?_,fun h=>?_⟩⟩
 ·obtain⟨k,k0,k1,e⟩:=pc.1 h
  rw[hg k k0]at e
  split at e
  ·exact e▸eQ i0 i1
  ·split at e
   ·exact e▸eQ j0 j1
   ·exact e▸eQ k0 (by omega)
 ·obtain⟨k,k0,k1,e⟩:=pc.1 h
  by_cases ei:k=i
  ·exact pc.2 ⟨j,j0,by omega,by rw[hg j j0,if_pos rfl,← ei];exact e⟩
  ·by_cases ej:k=j
   ·by_cases U4:i=j
    ·omega
    ·exact pc.2 ⟨i,i0,by omega,by rw[hg i i0,if_neg U4,if_pos rfl,← ej];exact e⟩
   ·exact pc.2 ⟨k,k0,by omega,by rw[hg k k0,if_neg ej,if_neg ei];exact e⟩
def jY.Df{L L':List Int}{n:Nat}(h:jY L L')(hL:∀ x∈L,0≤x∧x<n):∀ x∈L',0≤x∧x<n:=fun x hx=>hL x ((h.2 x).1 hx)
def f72(v:List eO)(hv:∀ k:Int,0≤k→k<v.length→0≤(gt v k).2∧(gt v k).2≤4000)(a b:Int)(ha:0≤a∧a<v.length)(hb:0≤b∧b<v.length):Wf T 72 [.i a,.i b,.eW [fh v]] [] (Is (.i ((gt v a).2-(gt v b).2))):=by
 have h1:=hv a ha.1 ha.2
 have h2:=hv b hb.1 hb.2
 refine Yg F0 ?_
 simp[F0]
 (with_reducible repeat' first|refine Xk ?_<;>try simp|refine Xs ?_ ?_<;>intro h<;>(try intro h')<;>(try simp[h])<;>try omega|refine Xg ?_|omega)
section
variable{X0 X1 X2 X4 X5 X6 X7 X8:Ob}{v:List eO}{N:Nat}
def f230(L:List Int)(hN:L.length=N)(h9:N≤4000)(a b n:Int)(h:0≤a∧0≤b∧a+n≤N∧b+n≤N:=by omega) :
  Wf T 230 [.eF 9 0 1 0 N,.i a,.i b,.i n,.fn (.func 72) [] [.ptr 3 0 0]] [X0,X1,X2,.row 52 0 [fh v],X4,X5,X6,X7,X8,.row 3 0 (cl f1 L)] (fun d H'=>d = .tup []∧∃ L',jY L L'∧H' = [X0,X1,X2,.row 52 0 [fh v],X4,X5,X6,X7,X8,.row 3 0 (cl f1 L')]):=by
 refine Yg E9 ?_
 simp[E9]
 (with_reducible repeat' first|refine Xk ?_<;>try simp|refine Xs ?_ ?_<;>intro h<;>(try intro h')<;>(try simp[h])<;>try omega|refine Xg ?_|omega)
 refine eN.e ((0,L):Int×List Int) (fun y=>[(0,.eF 9 0 1 0 N),(1,.i a),(2,.i b),(3,.i n),(10,.i y.1)]) (fun y=>[X0,X1,X2,.row 52 0 [fh v],X4,X5,X6,X7,X8,.row 3 0 (cl f1 y.2)]) (fun y=>0≤y.1∧jY L y.2) (fun y=>(n-y.1).toNat) ?_ ?_
 ·exact⟨by simp,jY.refl _⟩
 rintro⟨i,M⟩ ⟨i0,hM⟩
 dsimp only at i0 hM ⊢
 have hl:=hM.1
 by_cases hi:i<n
 ·have uP:(pt M (a+i) (gt M (b+i))).length=M.length:=gN (by omega) (by omega)
  simp[hi]
  (with_reducible repeat' first|refine Xk ?_<;>try simp|refine Xs ?_ ?_<;>intro h<;>(try intro h')<;>(try simp[h])<;>try omega|refine Xg ?_|omega)
  have hs:=jY.swap (L:=M) (i:=a+i) (j:=b+i) (by omega) (by omega) (by omega) (by omega)
  refine LJ.e (i+1,pt (pt M (a+i) (gt M (b+i))) (b+i) (gt M (a+i))) ?_
  exact nk (hM.trans hs)
 ·simp[hi]
  exact⟨M,hM,rfl⟩
def f157(hv:∀ k:Int,0≤k→k<v.length→0≤(gt v k).2∧(gt v k).2≤4000)(h9:N≤4000)(L:List Int)(hN:L.length=N)(hL:∀ x∈L,0≤x∧x<v.length)(a b:Int)(h:0≤a∧a≤8000∧b≤N:=by omega) :
  Wf T 157 [.eF 9 0 1 0 N,.i a,.i b,.fn (.func 72) [] [.ptr 3 0 0]] [X0,X1,X2,.row 52 0 [fh v],X4,X5,X6,X7,X8,.row 3 0 (cl f1 L)] (fun d H'=>d = .tup []∧∃ L',jY L L'∧H' = [X0,X1,X2,.row 52 0 [fh v],X4,X5,X6,X7,X8,.row 3 0 (cl f1 L')]):=by
 refine Yg Et ?_
 simp[Et]
 (with_reducible repeat' first|refine Xk ?_<;>try simp|refine Xs ?_ ?_<;>intro h<;>(try intro h')<;>(try simp[h])<;>try omega|refine Xg ?_|omega)
 refine eN.e ((a+1,L):Int×List Int) (fun y=>[(0,.eF 9 0 1 0 N),(1,.i a),(2,.i b),(3,.fn (.func 72) [] [.ptr 3 0 0]),(8,.i y.1)]) (fun y=>[X0,X1,X2,.row 52 0 [fh v],X4,X5,X6,X7,X8,.row 3 0 (cl f1 y.2)]) (fun y=>a<y.1∧jY L y.2) (fun y=>(b-y.1).toNat) ?_ ?_
 ·exact nj (jY.refl _)
 rintro⟨i,M⟩ ⟨i0,hM⟩
 dsimp only at i0 hM ⊢
 have hl:=hM.1
 by_cases hi:i<b
 ·simp[hi]
  refine eN.e ((i,M):Int×List Int) (fun y=>[(0,.eF 9 0 1 0 N),(1,.i a),(2,.i b),(3,.fn (.func 72) [] [.ptr 3 0 0]),(8,.i i),(9,.i y.1)]) (fun y=>[X0,X1,X2,.row 52 0 [fh v],X4,X5,X6,X7,X8,.row 3 0 (cl f1 y.2)]) (fun y=>a≤y.1∧y.1≤i∧jY L y.2) (fun y=>(y.1-a).toNat) ?_ ?_
  ·exact nk hM
  clear hl hM
  rintro⟨j,M⟩ ⟨j0,j1,hM⟩
  dsimp only at j0 j1 hM ⊢
  have hl:=hM.1
  by_cases hj:a<j
  ·obtain⟨q,rfl⟩:∃ q,j=q+1:=⟨j-1,by omega⟩
   have r1:=hM.Df hL (gt M (q+1)) (eQ (by omega) (by omega))
   have r2:=hM.Df hL (gt M q) (eQ (by omega) (by omega))
   have uP:(pt M (q+1) (gt M q)).length=M.length:=gN (by omega) (by omega)
   have hs:=jY.swap (L:=M) (i:=q+1) (j:=q) (by omega) (by omega) (by omega) (by omega)
   simp[hj]
   (with_reducible repeat' first|refine Xk ?_<;>try simp|refine Xs ?_ ?_<;>intro h<;>(try intro h')<;>(try simp[h])<;>try omega|refine Xg ?_|omega)
   trace_state
   refine gQ.r rfl rfl (f72 v hv (gt M (q+1)) (gt M q) r1 r2) (by simp) (by simp[flat]) (by simp) ?_
   simp
   (with_reducible repeat' first|refine Xk ?_<;>try simp|refine Xs ?_ ?_<;>intro h<;>(try intro h')<;>(try simp[h])<;>try omega|refine Xg ?_|omega)
   ·refine LJ.e (q,pt (pt M (q+1) (gt M q)) q (gt M (q+1))) ?_
    exact eY (hM.trans hs)
   ·refine LJ.e (i+1,M) ?_
    exact nk hM
  ·simp[hj]
   (with_reducible repeat' first|refine Xk ?_<;>try simp|refine Xs ?_ ?_<;>intro h<;>(try intro h')<;>(try simp[h])<;>try omega|refine Xg ?_|omega)
   refine LJ.e (i+1,M) ?_
   exact nk hM
 ·simp[hi]
  exact⟨M,hM,rfl⟩
def f196(L:List Int)(hN:L.length=N)(h9:N≤4000)(a m b:Int)(h:0≤a∧a<m∧m<b∧b≤N) :
  Wf T 196 [.eF 9 0 1 0 N,.i a,.i m,.i b,.fn (.func 72) [] [.ptr 3 0 0]] [X0,X1,X2,.row 52 0 [fh v],X4,X5,X6,X7,X8,.row 3 0 (cl f1 L)] (fun d H'=>d = .tup []∧∃ L',jY L L'∧H' = [X0,X1,X2,.row 52 0 [fh v],X4,X5,X6,X7,X8,.row 3 0 (cl f1 L')]):=by
 refine Yg ES ?_
 simp[ES]
 (with_reducible repeat' first|refine Xk ?_<;>try simp|refine Xs ?_ ?_<;>intro h<;>(try intro h')<;>(try simp[h])<;>try omega|refine Xg ?_|omega)
 refine eN.e ((m-a,b-m,L):Int×Int×List Int) (fun y=>[(0,.eF 9 0 1 0 N),(2,.i m),(4,.fn (.func 72) [] [.ptr 3 0 0]),(10,.i y.1),(11,.i y.2.1)]) (fun y=>[X0,X1,X2,.row 52 0 [fh v],X4,X5,X6,X7,X8,.row 3 0 (cl f1 y.2.2)]) (fun y=>1≤y.1∧y.1≤m-a∧1≤y.2.1∧y.2.1≤b-m∧jY L y.2.2) (fun y=>(y.1+y.2.1).toNat) ?_ ?_
 ·exact qx (jY.refl _)
 rintro⟨i,j,M⟩ ⟨i0,i1,j0,j1,hM⟩
 dsimp only at i0 i1 j0 j1 hM ⊢
 have hl:=hM.1
 by_cases oZ:i=j
 ·subst oZ
  simp
  (with_reducible repeat' first|refine Xk ?_<;>try simp|refine Xs ?_ ?_<;>intro h<;>(try intro h')<;>(try simp[h])<;>try omega|refine Xg ?_|omega)
  refine fg.lK rfl rfl (f230 M (by omega) h9 (m-i) m i) ?_
  rintro _ H' ⟨rfl,M',vP,rfl⟩
  simp
  exact⟨M',hM.trans vP,rfl⟩
 ·simp[oZ]
  by_cases fq:j<i
  ·(with_reducible repeat' first|refine Xk ?_<;>try simp|refine Xs ?_ ?_<;>intro h<;>(try intro h')<;>(try simp[h])<;>try omega|refine Xg ?_|omega)
   refine fg.lK rfl rfl (f230 M (by omega) h9 (m-i) m j) ?_
   rintro _ H' ⟨rfl,M',vP,rfl⟩
   simp
   (with_reducible repeat' first|refine Xk ?_<;>try simp|refine Xs ?_ ?_<;>intro h<;>(try intro h')<;>(try simp[h])<;>try omega|refine Xg ?_|omega)
   refine LJ.e (i-j,j,M') ?_
   exact Sa (hM.trans vP)
  ·(with_reducible repeat' first|refine Xk ?_<;>try simp|refine Xs ?_ ?_<;>intro h<;>(try intro h')<;>(try simp[h])<;>try omega|refine Xg ?_|omega)
   refine fg.lK rfl rfl (f230 M (by omega) h9 (m-i) (m+j-i) i) ?_
   rintro _ H' ⟨rfl,M',vP,rfl⟩
   simp
   (with_reducible repeat' first|refine Xk ?_<;>try simp|refine Xs ?_ ?_<;>intro h<;>(try intro h')<;>(try simp[h])<;>try omega|refine Xg ?_|omega)
   refine LJ.e (i,j-i,M') ?_
   exact Sa (hM.trans vP)
end
end Go.Proofs.YtnaefnajkaohgaaGreatDoor
namespace Go.Proofs.YtnaefnajkaohgaaGreatDoor
open Go Go.AL Classical
set_option maxRecDepth 10000
set_option maxHeartbeats 16000000
attribute [local simp] HF H5 tp kK
def ag8(w:Bool)(z:List eO){g:eH}{l:List Pos}{nx:List (List Int)}{part:List Int}{bu:Int}(o:mG g l nx part bu)(m:List Int)(n t:Int)(v:List eO)(b:List Bool)(hn:0≤n∧n≤4000)(ht:0≤t∧t≤40000000)(hv:v.length=l.length)(hb:b.length=l.length)
  {dst:Option Nat} {env:Env} {K:St→Prop} (hk:K { env:=put env dst (.b true),H:=HF w z g l nx m part bu (t+(lr b part bu part.length).1) (rV g l nx part v b n) (rB g l nx part v b n) .ready }) :
  oU T 11 [.i n] dst { env:=env,H:=HF w z g l nx m part bu t v b .ready } K .mk:=by
 obtain⟨u,hu⟩:∃ u,u=w:=⟨w,rfl⟩
 cases w
 all_goals
  have hp:=o.prt
  have P':=xZ b part bu part.length
  have gK:=o.pl
  have xM:=o.len
  refine oU.r (rf:=4992) (env0:=[(3,.ptr 5 0 0),(4,.ptr 6 0 0),(5,.ptr 7 0 0),(9,.ptr 8 0 0)]) (Rd:=y4) (by simp[HF,H5,tp,kK,hu]) rfl rfl y4.a y4.b (mE rfl) (mE rfl) ?_
  simp[y4,HF,H5,tp,kK,hu]
  refine gQ.r rfl rfl (f118 v b g l nx part bu (fun i hi=>by rw[hb];exact hp i hi) gK (by omega) o.bu) (by simp[hv,hb]) (by simp[flat]) (by simp) ?_
  simp
  (with_reducible repeat' first|refine Xk ?_<;>try simp|refine Xs ?_ ?_<;>intro h<;>(try intro h')<;>(try simp[h])<;>try omega|refine Xg ?_|omega)
  refine eN.s (by simp;rfl) ?_
  refine eN.kg [] true (0:Int) (fun y=>[(3,.ptr 5 0 0),(10,.i n),(11,.fE 12),(46,dI part),(47,.i part.length),(48,.i y)]) (fun y=>HF u z g l nx m part bu (t+(lr b part bu part.length).1) v b .busy ++ [.map (.int .i64) (nc (qg g l nx v b n) ((part.take y.toNat).filter (jQ g l nx v b n)))]) (fun y=>0≤y∧y≤part.length) (fun y=>(part.length-y).toNat) ?_ (by simp) (by first|rfl|(simp[ix];done)|(simp[*];done)) rfl rfl rfl ?_
  ·simp
  rintro y ⟨y0,y1⟩
  dsimp only at y0 y1 ⊢
  rw[hu]
  by_cases hy:y<part.length
  ·have ft:=hp _ (eQ y0 hy)
   have hx:=o.IJ _ ft.1 ft.2
   have X':gt part y ∉ (part.take y.toNat).filter (jQ g l nx v b n):=fun hm=>by
    have h1:=(aH.1 hm).1
    have h2:=o.nd
    rw[← bC y.toNat part,lQ y0 hy,aZ]at h2
    exact h2.2.2 _ h1 _ (b7 ..) rfl
   have mA:jQ g l nx v b n (gt part y)=true→ke (nc (qg g l nx v b n) ((part.take y.toNat).filter (jQ g l nx v b n))) (.int .i64 (gt part y)) (.agg [.i (jc g (gt l (gt part y)) v b (gt nx (gt part y)) n).1.1,.i (jc g (gt l (gt part y)) v b (gt nx (gt part y)) n).1.2])=nc (qg g l nx v b n) ((part.take (y+1).toNat).filter (jQ g l nx v b n)):=fun h=>by
    rw[gx y0 hy,br,dZ h,cO]
    exact RB X'
   have o4:jQ g l nx v b n (gt part y)=false→(part.take (y+1).toNat).filter (jQ g l nx v b n)=(part.take y.toNat).filter (jQ g l nx v b n):=fun h=>by
    rw[gx y0 hy,br,ea (by rw[h];decide),cO,aw]
   simp[hy,HF,H5,tp,kK,hu]
   (with_reducible repeat' first|refine Xk ?_<;>try simp|refine Xs ?_ ?_<;>intro h<;>(try intro h')<;>(try simp[h])<;>try omega|refine Xg ?_|omega)
   refine fg.r rfl rfl (f119 g o.gm l o.ps v b nx (gt part y) n ft hn o.RO hx.1 hv hb hx.2) (by simp[hv,hb]) (by simp[flat,oh]) (by simp) ?_
   simp
   (with_reducible repeat' first|refine Xk ?_<;>try simp|refine Xs ?_ ?_<;>intro h<;>(try intro h')<;>(try simp[h])<;>try omega|refine Xg ?_|omega)
   ·refine LJ.i (y+1) (by first|rfl|simp[mA (by simp[jQ, *])]) (by first|rfl|simp[mA (by simp[jQ, *])]) (by first|rfl|simp[mA (by simp[jQ, *])]) (by first|rfl|simp[mA (by simp[jQ, *])]) ?_
    omega
   ·refine LJ.i (y+1) (by first|rfl|simp[o4 (by simp[jQ, *])]) (by first|rfl|simp[o4 (by simp[jQ, *])]) (by first|rfl|simp[o4 (by simp[jQ, *])]) (by first|rfl|simp[o4 (by simp[jQ, *])]) ?_
    omega
   ·refine LJ.i (y+1) (by first|rfl|simp[o4 (by simp[jQ, *])]) (by first|rfl|simp[o4 (by simp[jQ, *])]) (by first|rfl|simp[o4 (by simp[jQ, *])]) (by first|rfl|simp[o4 (by simp[jQ, *])]) ?_
    omega
  ·have Y6:y=part.length:=by omega
   subst Y6
   simp[HF,H5,tp,kK,hu]
   unfold rV rB oV at hk
   have mh:∀ i∈part.filter (jQ g l nx v b n),0≤i∧i<l.length:=fun i hi=>hp i (aH.1 hi).1
   refine eN.s (by simp;rfl) ?_
   generalize part.filter (jQ g l nx v b n)=ds at *
   refine eN.kg [] true ([]:List Nat) (fun y=>[(3,.ptr 5 0 0),(75,.ptr 13 0 0)]) (fun y=>HF u z g l nx m part bu (t+(lr b part bu part.length).1) (jR v (qg g l nx v b n) (gk ds y)) (jR b (fun _=>false) (gk ds y)) .busy ++ [.map (.int .i64) (nc (qg g l nx v b n) ds),.jJ (.fE 12) ds.length y]) (fun y=>y.Nodup∧∀ j∈y,j<ds.length) (fun y=>ds.length-y.length) ?_ (by simp) (by first|rfl|(simp[ix];done)|(simp[*];done)) rfl rfl rfl ?_
   ·simp[gk]
   rintro ys ⟨lz,fq⟩
   dsimp only at lz fq ⊢
   rw[hu]
   simp[HF,H5,tp,kK,hu]
   refine r8.at (m:=12) (since:=ds.length) (seen:=ys) (kk:=.int .i64) (es:=nc (qg g l nx v b n) ds) (by simp) (by simp) (by simp) (fun iF=>?_) fun i k d he hi=>?_
   ·rw[Vf]at iF
    simp
    rw[Sh (v:=v) (r:=gk ds ys) (r':=ds) (by rw[hv];exact Ht mh fq) (Mi fq iF),Sh (v:=b) (r:=gk ds ys) (r':=ds) (by rw[hb];exact Ht mh fq) (Mi fq iF)]
    exact hk
   ·obtain⟨iZ,rfl,rfl⟩:=Ve he
    have ft:=mh _ (eQ (l:=ds) (n:=(i:Int)) (by omega) (by omega))
    have iR:=oy (qg g l nx v b n) (gk ds ys) v (by rw[hv];exact Ht mh fq)
    have iA:=oy (fun _=>false) (gk ds ys) b (by rw[hb];exact Ht mh fq)
    simp[he,nJ]
    (with_reducible repeat' first|refine Xk ?_<;>try simp[iR,iA,hv,hb,nJ]|refine Xs ?_ ?_<;>intro h<;>(try intro h')<;>(try simp[h,iR,iA,hv,hb,nJ])<;>try omega|refine Xg ?_|omega)
    refine LJ.i (ys ++ [i]) (by first|rfl|simp[nJ,zm,pK]) (by first|rfl|simp[nJ,zm,pK]) (by first|rfl|simp[nJ,zm,pK]) (by first|rfl|simp[nJ,zm,pK]) ?_
    refine⟨?_,?_,fun j hj=>?_⟩
    ·have HS:(ys ++ [i]).Nodup:=by
      rw[aZ]
      exact⟨lz,by simp,fun a ha b hb e=>hi (by rw[List.mem_singleton.1 hb]at e;exact e▸ha)⟩
     have:=rR HS (m:=List.range ds.length) fun x hx=>by
      rcases List.mem_append.1 hx with hx|hx
      ·exact aY.2 (fq x hx)
      ·rw[List.mem_singleton.1 hx];exact aY.2 iZ
     simp at this ⊢
     omega
    ·rw[aZ]
     exact⟨lz,by simp,fun a ha b hb e=>hi (by rw[List.mem_singleton.1 hb]at e;exact e▸ha)⟩
    ·rcases List.mem_append.1 hj with hj|hj
     ·exact fq j hj
     ·rw[List.mem_singleton.1 hj];exact iZ
end Go.Proofs.YtnaefnajkaohgaaGreatDoor
namespace Go.Proofs.YtnaefnajkaohgaaGreatDoor
open Go Go.AL Classical
set_option maxRecDepth 10000
set_option maxHeartbeats 16000000
attribute [local simp] HF H5 tp kK
theorem rp.s{T:gy}{rf:Nat}{live:List Nat}{x:X}{s s':St}{K:gS}(hs:s=s')(h:rp T rf live x s' K .mk):rp T rf live x s K .mk:=by subst hs;exact h
section
variable{g:eH}{l:List Pos}{nx:List (List Int)}{part:List Int}{bu:Int}
def f162(w:Bool)(z:List eO)(o:mG g l nx part bu)(m:List Int)(v:List eO)(b:List Bool)(hv:v.length=l.length)(hb:b.length=l.length) :
  Wf T 162 [.ic 11,.ptr 9 0 0] (HF w z g l nx m part bu 0 v b .ready) (fun _ H'=>H'=HF w z g l nx m part bu (nu g l nx part bu 4001 0 v b 0).1 (nu g l nx part bu 4001 0 v b 0).2.1 (nu g l nx part bu 4001 0 v b 0).2.2 .ready):=by
 obtain⟨u,hu⟩:∃ u,u=w:=⟨w,rfl⟩
 cases w
 all_goals
  have xM:=o.len
  generalize hR:nu g l nx part bu 4001 0 v b 0=R
  refine Yg Ez ?_
  simp[Ez]
  refine eN.e ((0,v,b,0):Int×List eO×List Bool×Int) (fun y=>[(0,.ic 11),(1,.ptr 9 0 0),(3,.i y.1)]) (fun y=>HF u z g l nx m part bu y.2.2.2 y.2.1 y.2.2.1 .ready) (fun y=>0≤y.1∧y.1≤4000∧y.2.1.length=l.length∧y.2.2.1.length=l.length∧0≤y.2.2.2∧y.2.2.2≤y.1*4000∧nu g l nx part bu (4001-y.1).toNat y.1 y.2.1 y.2.2.1 y.2.2.2=R) (fun y=>(4001-y.1).toNat) ?_ ?_
  ·exact⟨by simp,by simp,hv,hb,by simp,by simp,hR⟩
  rintro⟨n,v1,b1,t⟩ ⟨n0,n1,k9,mg,t0,t1,hr⟩
  dsimp only at n0 n1 k9 mg t0 t1 hr ⊢
  rw[hu]
  have P':=xZ b1 part bu part.length
  have gK:=o.pl
  have e1:=IU o k9 mg (n:=n)
  have e2:=IT o (v:=v1) mg (n:=n)
  rw[show(4001-n).toNat=(4000-n).toNat+1 by omega,nu,k9,← e1]at hr
  simp[-HF]
  refine ag8 _ z o m n t v1 b1 ⟨n0,n1⟩ ⟨t0,by omega⟩ k9 mg ?_
  generalize rV g l nx part v1 b1 n=v2 at *
  generalize rB g l nx part v1 b1 n=b2 at *
  generalize (lr b1 part bu part.length).1=q at *
  simp[HF,H5,tp,kK,hu]
  refine fg.r rfl rfl (f163 v2 b2 g l nx (by omega) (by omega)) (by simp[e1,e2]) (by simp[flat]) (by simp) ?_
  simp
  (with_reducible repeat' first|refine Xk ?_<;>try simp|refine Xs ?_ ?_<;>intro h<;>(try intro h')<;>(try simp[h])<;>try omega|refine Xg ?_|omega)
  ·rw[if_pos ⟨by assumption,by assumption⟩]at hr
   refine LJ.i (n+1,v2,b2,t+q) (by first|rfl|simp[HF,H5,tp,kK,hu]) (by first|rfl|simp[HF,H5,tp,kK,hu]) rfl rfl ?_
   dsimp only
   refine⟨by omega,by omega,by omega,e1,e2,by omega,by omega,?_⟩
   rw[show(4001-(n+1)).toNat=(4000-n).toNat by omega]
   exact hr
  ·rw[if_neg (fun c=>absurd c.2 (by assumption))]at hr
   subst hr
   exact⟨rfl,rfl,rfl⟩
  ·rw[if_neg (fun c=>absurd c.1 (by omega))]at hr
   subst hr
   exact⟨rfl,rfl,rfl⟩
def f78(w:Bool)(z:List eO)(o:mG g l nx part bu)(m:List Int)(v:List eO)(b:List Bool)(hv:v.length=l.length)(hb:b.length=l.length) :
  Wf T 78 [tp w,dI part,.i bu] (H5 w z g l nx m v b)
   (fun d H'=>d = .i (kG g l nx part bu v b).1∧H'=H5 w z g l nx m (kG g l nx part bu v b).2.1 (kG g l nx part bu v b).2.2):=by
 obtain⟨u,hu⟩:∃ u,u=w:=⟨w,rfl⟩
 cases w
 all_goals
  have hp:=o.prt
  have gK:=o.pl
  have xM:=o.len
  refine Yg F8 ?_
  simp[F8,H5,tp,kK,hu]
  refine eN.e (0:Int) (fun y=>[(3,.ptr 5 0 0),(4,.ptr 6 0 0),(5,.ptr 7 0 0),(20,dI part),(21,.i part.length),(22,.i y)]) (fun y=>H5 u z g l nx m v (jR b (fun _=>true) (part.take y.toNat)) ++ [.row 139 0 [tp u],.row 33 0 [dI part],.row 3 0 [.i bu]]) (fun y=>0≤y∧y≤part.length) (fun y=>(part.length-y).toNat) ?_ ?_
  ·simp[jR]
  rintro i ⟨i0,i1⟩
  dsimp only at i0 i1 ⊢
  rw[hu]
  by_cases hi:i<part.length
  ·have ft:=hp _ (eQ i0 hi)
   have hl:=oy (fun _=>true) (part.take i.toNat) b fun j hj=>by rw[hb];exact hp j (aJ hj)
   simp[hi,H5,tp,kK,hu]
   (with_reducible repeat' first|refine Xk ?_<;>try simp[hl,hb]|refine Xs ?_ ?_<;>intro h<;>(try intro h')<;>(try simp[h,hl,hb])<;>try omega|refine Xg ?_|omega)
   refine LJ.i (i+1) (by first|rfl|simp[H5,tp,kK,hu,gx i0 hi,pK]) (by first|rfl|simp[H5,tp,kK,hu,gx i0 hi,pK]) rfl rfl ?_
   omega
  ·have:i=part.length:=by omega
   subst this
   simp[H5,tp,kK,hu]
   refine fg.inl AG rfl rfl (by simp[AG]) rfl ?_
   simp[AG]
   refine rp.s (by simp;rfl) ?_
   refine rp.r (f:=162) (first:=[]) (cap:=[.ptr 9 0 0]) rfl rfl rfl rfl ?_
   simp
   have KB:=f162 u z o m v (jR b (fun _=>true) part) hv (by rw[oy _ _ _ (by rw[hb];exact hp),hb])
   rw[hu]at KB
   have ie:=(I0 o bu 4001 0 v (jR b (fun _=>true) part) 0 hv (by rw[oy _ _ _ (by rw[hb];exact hp),hb])).1
   unfold kG
   dsimp only
   generalize nu g l nx part bu 4001 0 v (jR b (fun _=>true) part) 0=r at *
   obtain⟨t,v1,b1⟩:=r
   obtain⟨k9,mg⟩:=ie
   dsimp only at k9 mg KB ⊢
   refine Wf.mono KB ?_
   rintro _ H' rfl
   refine⟨[(3,.ptr 5 0 0),(4,.ptr 6 0 0),(5,.ptr 7 0 0),(9,.ptr 8 0 0)],.ready,by simp[HF,H5,tp,kK,hu],?_⟩
   simp[HF,H5,tp,kK,hu]
   refine eN.s (by simp;rfl) ?_
   refine eN.kg [10] false (0:Int) (fun y=>[(3,.ptr 5 0 0),(9,.ptr 8 0 0),(96,dI part),(97,.i part.length),(98,.i y)]) (fun y=>H5 u z g l nx m (lG (part.take y.toNat) v1 b1).1 (lG (part.take y.toNat) v1 b1).2 ++ [.row 139 0 [tp u],.row 33 0 [dI part],.row 3 0 [.i bu],.row 3 0 [.i t],.row 139 0 [tp u],.jZ]) (fun y=>0≤y∧y≤part.length) (fun y=>(part.length-y).toNat) ?_ (by simp) (by first|rfl|(simp[ix];done)|(simp[*];done)) rfl rfl rfl ?_
   ·simp
   rintro y ⟨y0,y1⟩
   dsimp only at y0 y1 ⊢
   rw[hu]
   by_cases hy:y<part.length
   ·have ft:=hp _ (eQ y0 hy)
    have pW:∀ i∈(part.take y.toNat).filter (fun i=>gt b1 i),0≤i∧i<l.length:=fun i hi=>hp i (aJ (aH.1 hi).1)
    have iR:(lG (part.take y.toNat) v1 b1).1.length=l.length:=by unfold lG;rw[oy _ _ _ (by rw[k9];exact pW),k9]
    have iA:(lG (part.take y.toNat) v1 b1).2.length=l.length:=by unfold lG;rw[oy _ _ _ (by rw[mg];exact pW),mg]
    have HL:gt (lG (part.take y.toNat) v1 b1).2 (gt part y)=gt b1 (gt part y):=by
     unfold lG
     dsimp only
     rw[uE _ _ _ (by rw[mg];exact pW) _ ft.1 (by omega),if_neg fun hm=>?_]
     have h1:=(aH.1 hm).1
     have h2:=o.nd
     rw[← bC y.toNat part,lQ y0 hy,aZ]at h2
     exact h2.2.2 _ h1 _ (b7 ..) rfl
    have B':gt b1 (gt part y)=true→lG (part.take (y+1).toNat) v1 b1=(pt (lG (part.take y.toNat) v1 b1).1 (gt part y) (2,0),pt (lG (part.take y.toNat) v1 b1).2 (gt part y) false):=fun h=>by
     unfold lG
     rw[gx y0 hy,br,dZ h,cO,pK,pK]
    have o4:gt b1 (gt part y)=false→lG (part.take (y+1).toNat) v1 b1=lG (part.take y.toNat) v1 b1:=fun h=>by
     unfold lG
     rw[gx y0 hy,br,ea (by rw[h];decide),cO,aw]
    generalize hF:lG (part.take y.toNat) v1 b1=F at *
    obtain⟨v2,b2⟩:=F
    dsimp only at iR iA HL B' o4 ⊢
    simp[hy,H5,tp,kK,hu,hF,iR,iA,HL]
    (with_reducible repeat' first|refine Xk ?_<;>try simp[iR,iA,HL,nJ]|refine Xs ?_ ?_<;>intro h<;>(try intro h')<;>(try simp[h,iR,iA,HL,nJ])<;>try omega|refine Xg ?_|omega)
    ·refine LJ.i (y+1) (by first|rfl|simp[H5,tp,kK,hu,B' h]) (by first|rfl|simp[H5,tp,kK,hu,B' h]) (by first|rfl|simp[H5,tp,kK,hu,B' h]) (by first|rfl|simp[H5,tp,kK,hu,B' h]) ?_
     omega
    ·refine LJ.i (y+1) (by first|rfl|simp[H5,tp,kK,hu,o4 h]) (by first|rfl|simp[H5,tp,kK,hu,o4 h]) (by first|rfl|simp[H5,tp,kK,hu,o4 h]) (by first|rfl|simp[H5,tp,kK,hu,o4 h]) ?_
     omega
   ·have:y=part.length:=by omega
    subst this
    simp[H5,tp,kK,hu]
