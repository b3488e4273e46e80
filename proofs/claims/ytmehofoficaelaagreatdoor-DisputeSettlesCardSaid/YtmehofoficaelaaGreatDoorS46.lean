/- Part 46 of DisputeSettles. -/
import Derived.Test.YtmehofoficaelaaGreatDoorS45
set_option linter.all false
namespace Go.Proofs.YtmehofoficaelaaGreatDoor
open Go Go.AL Classical
set_option maxRecDepth 10000
set_option maxHeartbeats 32000000
def af0{p:Int->Bool}{k:Int}(k0:0<=k):(upto (k+1).toNat).filter p=if p k=true then(upto k.toNat).filter p ++ [k]else(upto k.toNat).filter p:=by
 rw[show(k+1).toNat=k.toNat+1 by omega,Fy,c8,show((k.toNat:Nat):Int)=k by omega]
 by_cases h:p k=true
 .rw[if_pos h,List.filter_cons_of_pos h];rfl
 .rw[if_neg h,List.filter_cons_of_neg h];simp
def aex(x:qt)(hx:JJ x)(ws:List B5)(EH:∀y∈ws,y.ok)(K C a b c:Int)(hK:0<=K/\K<256)(hT:0<=C/\C<256)(ha:0<=a/\a<256)(hb:0<=b/\b<256)(hc:0<=c/\c<256)
  (J:List B2) (th:∀y∈J,y.ok) :
  Wf T 10 [.agg x.cells,.agg [.sl 5 (ws.map f5),.val (.int .u8 K),.val (.int .u8 C),.val (.int .u8 a),.val (.int .u8 b),.val (.int .u8 c)],.sl 2 (J.map zP)] [] (Is (.b true)):=by
 have I:x.cells.length=31:=by simp[qt.cells,Raw.cells,hx.len]
 have Il:gG x.cells=true:=by have:=We x;simpa using this
 have ny:=afA x hx;generalize x.cells=xs at *;obtain⟨X,rfl⟩:=W0 Il;rw[rN,eX]at I;have P:X.take 31=X:=af (by omega);refine Yz FG (iV 55 [3] (iV 73 [5] FG.body)) ?_;simp[FG,iV,kq,nb,ng,nD,lV,I,P];refine Yc (aeB) ?_;simp;refine kJ I P ?_;simp[I,P];refine gx.q rfl rfl ny (by simp) (λy=>by obtain⟨g,p,b,l⟩:=y;cases b<;>simp[gG]) ?_;rintro⟨g,p,b,l⟩ ⟨hg,hp,U⟩;cases b
 .simp
 dsimp only at hg hp U;have BW:=(U rfl).1;have Rz:=(U rfl).2;have G:=BW.c2;have h0:=BW.len.1;have f':=BW.len.2;have gF:=λi i0 t=>(pC G (i:=i) i0 t).2;simp;refine Yq (f29 g hg l G h0) λV d=>?_;obtain⟨Ym,O⟩:=d
 have Hq:∀k:Int,0<=k->k<V.length->0<=(gt V k).2/\(gt V k).2<=4000:=λk k0 k1=>by have:=ah9 (A:=ji g l (gw g l)) (v:=V) (n:=l.length) gF O (i:=k) k0 (by omega);omega
 have Yp:∀r∈V,r.2<=4000:=λr hr=>by obtain⟨k,k0,k1,rfl⟩:=um.1 hr;exact(Hq k k0 k1).2
 have Z:Vn (ji g l (gw g l)) l.length V:=⟨Ym,gF,O,λi i0 t=>ke.lD (λo=>abT hg o) (O i i0 t)⟩;have R:0<V.length:=by omega
 have H:V.length<=64:=by omega
 simp;(with_reducible repeat' first|refine Xk ?_<;>try simp|refine Xs ?_ ?_<;>intro h<;>(try intro h')<;>(try simp[h])<;>try omega|refine Xg ?_|omega);refine Yq (afC g hg l G h0) λy d=>?_;obtain⟨e,W⟩:=y;obtain⟨Yo,Ys⟩:=d;dsimp only at Yo Ys;obtain rfl:=aia G Yo Ym Ys O;simp;refine Yc (afG e (by omega)) ?_;simp;refine gf ?_;refine gx.on rfl rfl (aeC e ws K C a b c EH R H Yp hK hT ha hb hc) (by simp) λm g0 hP=>?_;have uU:=hP.1;have M:=aiM th H;have c0:=aeD J th e.length (by omega) (by omega);obtain⟨E,S⟩:∃E,(J.take (e.length:Int).toNat).map B2.xL=E:=⟨_,rfl⟩;rw[S]at M c0;have Q:MK e:=⟨H,Yp⟩;have c2:=W1 E M.len;have Y:=W1 e Q.len;have B:=M.ok;have z:=Q.ok;have w:∀r∈(⟨sU E,false⟩:Cw).c.es,r.2<=4000:=M.bd;have u:∀r∈(⟨sU e,false⟩:Cw).c.es,r.2<=4000:=Q.bd;obtain⟨j,Av⟩:∃j:Cw,(⟨sU E,false⟩:Cw)=j:=⟨_,rfl⟩;obtain⟨f,lA,Il⟩:∃f:Cw,(⟨sU e,false⟩:Cw)=f/\f.c=sU e:=⟨_,rfl,rfl⟩;rw[Av]at c2 B w;rw[lA]at Y z u;rw[show ib j=cl ib [j]from(iM _).symm]at c2;rw[show ib f=cl ib [f]from(iM _).symm]at Y;have q0:(cl ib [j]).length=36:=by rw[rN];rfl
 have q1:(cl ib [f]).length=36:=by rw[rN];rfl
 have t0:(cl ib [j]).take 36=cl ib [j]:=af (by omega);have t1:(cl ib [f]).take 36=cl ib [f]:=af (by omega)
 have d2:(cl ib [j]++(D.val (.int .i64 0)::D.val (.int .i64 0)::D.val (.int .i64 0)::D.gg::cl fU (zs 32))).drop 72 = []:=by rw[List.drop_eq_nil_iff,aj,q0];simp
 simp;refine gf ?_;refine Yc c0 ?_;simp;refine Yc c2 ?_;simp[q0,t0];refine Yc Y ?_;simp[q0,t0,q1,t1,d2];(with_reducible repeat' first|refine Xk ?_<;>try simp[q0,t0,q1,t1,d2]|refine Xs ?_ ?_<;>intro h<;>(try intro h')<;>(try simp[h,q0,t0,q1,t1,d2])<;>try omega|refine Xg ?_|omega);have Sn:List.map ib m ++ [ib j,ib f]=(m ++ [j,f]).map ib:=by simp
 have Yb:(m ++ [j,f]).length<=12:=by simp;omega
 have RM:∀y∈m ++ [j,f],y.ok:=λy d=>by
  rcases List.mem_append.1 d with d|d
  .exact(hP.2 y d).1.ok
  .rcases ao.1 d with rfl|d
   .exact B
   .rw[List.mem_singleton.1 d];exact z
 have Hl:∀y∈m ++ [j,f],∀r∈y.c.es,r.2<=4000:=λy d=>by
  rcases List.mem_append.1 d with d|d
  .exact(hP.2 y d).1.b
  .rcases ao.1 d with rfl|d
   .exact w
   .rw[List.mem_singleton.1 d];exact u
 have F:=aeF g hg l G h0 (by omega) (.inl rfl) RM Hl (by omega);have a':=api Z (cl:=cs (m ++ [j,f])) λi i0 t=>⟨sU e,by rw[<-Il];exact List.mem_map.2 ⟨f,by simp,rfl⟩,acJ e,by unfold kA sU;exact decide_eq_true ⟨i0,by dsimp only;omega⟩⟩;rw[a',vI]at F;simp only[y9]at F;obtain⟨L,hL⟩:∃L,m ++ [j,f]=L:=⟨_,rfl⟩;have jP:m.length+2=L.length:=by rw[<-hL];simp
 rw[hL]at Yb RM Hl F Sn ⊢;refine gp.s (by simp[jP];rfl) ?_;refine gp.e ((0,[]):Int×List Int) (λy=>[(7,.b true),(8,.ptr 2 0 0),(9,iw e),(11,.sl 36 (L.map ib)),(12,.fZ 5 y.2.length 1 0 y.2.length),(13,.i y.1)]) (λy=>[.row 32 0 (cl fC X),.row 77 0 [.sl 5 (ws.map f5),.val (.int .u8 K),.val (.int .u8 C),.val (.int .u8 a),.val (.int .u8 b),.val (.int .u8 c)],.row 49 0 (g.cells++(p.cells ++ [gZ l,.b true])),.dead,.row 72 0 (cl ib [j,f]),.row 3 y.2.length (cl f1 y.2)]) (λy=>(0<=y.1/\y.1<=L.length)/\y.2=(upto y.1.toNat).filter (λk => !u5 e (gt (cs L) k))/\y.2.length<=y.1.toNat) (λy=>(L.length-y.1).toNat) ?_ ?_
 .exact⟨by simp,rfl,by simp⟩
 rintro⟨i,s⟩ ⟨⟨i0,t⟩,hs,oW⟩;dsimp only at i0 t hs oW ⊢
 by_cases hi:i<L.length
 .have rl:=RM _ (gA i0 hi);have Qs:=aeA (gt L i) rl e H;have ki:(ib (gt L i)).length=36:=Fl.len _;have oi:(ib (gt L i)).take 36=ib (gt L i):=af (by omega);have vU:gG (ib (gt L i))=true:=Fl.cl _;rw[<-NF rl]at Qs;have N:=af0 (p:=λk => !u5 e (gt (cs L) k)) i0;rw[<-hs,NU i0 hi]at N;obtain⟨q,hq⟩:∃q,u5 e (gt L i).c=q:=⟨_,rfl⟩;rw[hq]at Qs N;simp[hi,i0,ki,oi];refine kJ ki oi ?_;refine gx.c rfl rfl Qs (by simp[vU]) (by simp) ?_;cases q
  .simp;refine gf ?_;refine LJ.e (i+1,s ++ [i]) ?_;exact⟨by omega,iE,by rw[N];simp,by simp;omega⟩
  .simp;refine gf ?_;refine LJ.e (i+1,s) ?_;exact⟨by omega,iE,by rw[N];simp,by dsimp only;omega⟩
 .have jb:i=L.length:=by omega
  subst jb;rw[bB]at hs;rw[<-hs]at F;have VV:=aeE (zu.I e) (zu.I e) (rG.N s) (rG.I s) (by omega) (by omega) 0 0;simp[hi];rw[decide_eq_true ⟨rfl,rfl,rfl⟩]at VV;refine Yc F ?_;simp;refine Yc VV ?_;simp
