/- Part 46 of DisputeTruth. -/
import Derived.Test.YtmehofoficaelaaGreatDoorV45
set_option linter.all false
namespace Go.Proofs.YtmehofoficaelaaGreatDoor
open Go Go.AL Classical
set_option maxRecDepth 10000
set_option maxHeartbeats 32000000
attribute [-simp] s7
theorem adf(x:p7)(hx:IJ x)(ws:List B5)(DV:∀y∈ws,y.ok)(K J a b c:Int)(hK:0<=K/\K<256)(hT:0<=J/\J<256)(ha:0<=a/\a<256)(hb:0<=b/\b<256)(hc:0<=c/\c<256)
  (F E:List B2) (sL:∀y∈F,y.ok) (Nj:∀y∈E,y.ok) :
  Wf T 6 [.agg x.cells,.agg [.sl 5 (ws.map f5),.val (.int .u8 K),.val (.int .u8 J),.val (.int .u8 a),.val (.int .u8 b),.val (.int .u8 c)],.agg [.sl 2 (F.map wB),.sl 2 (E.map wB)]] [] (Is (.b true)):=by
 have C:x.cells.length=31:=by simp[p7.cells,Raw.cells,hx.len]
 have RQ:gw x.cells=true:=by have:=U3 x;simpa using this
 have mZ:=aef x hx;generalize x.cells=xs at *;obtain⟨X,rfl⟩:=VK RQ;rw[rh,eP]at C;have N:X.take 31=X:=af (by omega);refine Yz EL (iO 43 [4] EL.body) ?_;simp[EL,iO,kh,mN,mQ,nf,lK,C,N];refine Yc (adk) ?_;simp;refine kM C N ?_;simp[C,N];refine gj.q rfl rfl mZ (by simp) (λy=>by obtain⟨g,p,b,l⟩:=y;cases b<;>simp[gw]) ?_;rintro⟨g,p,b,l⟩ ⟨hg,hp,Z⟩;cases b
 .simp
 dsimp only at hg hp Z;have Bf:=(Z rfl).1;have Ql:=(Z rfl).2;have Gl:=Bf.c2;have h0:=Bf.len.1;have e2:=Bf.len.2;have gy:=λi i0 I=>(qn Gl (i:=i) i0 I).2;simp;refine Yq (aeh g hg l Gl h0) λy e=>?_;obtain⟨V,W⟩:=y;obtain⟨W1,M⟩:=e;dsimp only at W1 M
 have Gh:∀k:Int,0<=k->k<V.length->0<=(gt V k).2/\(gt V k).2<=4000:=λk k0 k1=>by have:=agL (A:=jM g l (gu g l)) (v:=V) (n:=l.length) gy M (i:=k) k0 (by omega);omega
 have Q:∀r∈V,r.2<=4000:=λr hr=>by obtain⟨k,k0,k1,rfl⟩:=vL.1 hr;exact(Gh k k0 k1).2
 have Xu:E7 (jM g l (gu g l)) l.length V:=⟨W1,gy,M,λi i0 I=>kn.ln (λo=>anO hg o) (M i i0 I)⟩;have R:0<V.length:=by omega
 have B:V.length<=64:=by omega
 simp;refine fQ ?_;refine gj.on rfl rfl (adl V ws K J a b c DV R B Q hK hT ha hb hc) (by simp) λj g0 hP=>?_;have Qy:=hP.1;have H:=Zr sL B;have G:=Zr Nj B;have c0:=VL F sL V.length (by omega) (by omega);have c1:=VL E Nj V.length (by omega) (by omega);obtain⟨z,Y⟩:∃z,(F.take (V.length:Int).toNat).map B2.vT=z:=⟨_,rfl⟩;obtain⟨w,U⟩:∃w,(E.take (V.length:Int).toNat).map B2.vT=w:=⟨_,rfl⟩;rw[Y]at H c0;rw[U]at G c1;have c2:=VM z H.len;have c3:=VM w G.len;have u:=H.ok;have t:=G.ok;have s:∀r∈(⟨xm z,false⟩:Cw).c.es,r.2<=4000:=H.bd;have q:∀r∈(⟨xm w,false⟩:Cw).c.es,r.2<=4000:=G.bd;obtain⟨d,zJ⟩:∃d:Cw,(⟨xm z,false⟩:Cw)=d:=⟨_,rfl⟩;obtain⟨f,lh⟩:∃f:Cw,(⟨xm w,false⟩:Cw)=f:=⟨_,rfl⟩;rw[zJ]at c2 u s;rw[lh]at c3 t q;rw[show gT d=cl gT [d]from(iI _).symm]at c2;rw[show gT f=cl gT [f]from(iI _).symm]at c3;have q0:(cl gT [d]).length=36:=by rw[rh];rfl
 have q1:(cl gT [f]).length=36:=by rw[rh];rfl
 have t0:(cl gT [d]).take 36=cl gT [d]:=af (by omega);have t1:(cl gT [f]).take 36=cl gT [f]:=af (by omega);simp;refine fQ ?_;refine Yt c0 ?_;simp;refine Yt c2 ?_;simp[q0,t0];refine Yt c1 ?_;simp[q0,t0];refine Yt c3 ?_
 have d2:(cl gT [d]++(D.val (.int .i64 0)::D.val (.int .i64 0)::D.val (.int .i64 0)::D.fX::cl fU (zs 32))).drop 72 = []:=by rw[List.drop_eq_nil_iff,aj,q0];simp
 simp[q0,t0,q1,t1,d2];refine pI ?_;have Q8:List.map gT j ++ [gT d,gT f]=(j ++ [d,f]).map gT:=by simp
 rw[Q8];have WR:(j ++ [d,f]).length<=12:=by simp;omega
 have Qz:∀y∈j ++ [d,f],y.ok:=λy e=>by
  rcases List.mem_append.1 e with e|e
  .exact(hP.2 y e).1.ok
  .rcases aw.1 e with rfl|e
   .exact u
   .rw[List.mem_singleton.1 e];exact t
 have Gd:∀y∈j ++ [d,f],∀r∈y.c.es,r.2<=4000:=λy e=>by
  rcases List.mem_append.1 e with e|e
  .exact(hP.2 y e).1.b
  .rcases aw.1 e with rfl|e
   .exact s
   .rw[List.mem_singleton.1 e];exact q
 have m:=adn g hg l Gl h0 (by omega) (.inl rfl) Qz Gd (by omega);have Pb:=adi (j ++ [d,f]) Qz (by omega) V B;have QO:=λh=>anM Xu (cl:=cs (j ++ [d,f])) h;have RD:=λv o=>anN Xu (ad:=iY l.length) (cl:=cs (j ++ [d,f])) (v:=v) (o:=o);obtain⟨L,hL⟩:∃L,j ++ [d,f]=L:=⟨_,rfl⟩;have O:j.length+2=L.length:=by rw[<-hL];simp
 rw[hL]at WR Qz Gd m Pb QO RD ⊢;obtain⟨S,hS⟩:∃S,sW (jM g l (gu g l)) l.length (iY l.length) (cs L)=S:=⟨_,rfl⟩;rw[hS]at m QO RD;obtain⟨_|v,o⟩:=S
 .have P:¬Ps L V:=λh=>by
   have:=QO λi i0 I=>by obtain⟨y,h1,h2,h3⟩:=h i i0 (by omega);exact⟨y.c,ao.2 ⟨y,h1,rfl⟩,h3,h2⟩
   cases congrArg Prod.fst this
  rw[decide_eq_false P]at Pb;simp only[w9]at m;refine Yc m ?_;simp[O];(with_reducible repeat' first|refine Xk ?_<;>try simp[O]|refine Xs ?_ ?_<;>intro h<;>(try intro h')<;>(try simp[h,O])<;>try omega|refine Xg ?_|omega);refine Yc Pb ?_;simp
 .obtain rfl:=RD v o rfl;simp only[w9]at m;refine Yc m ?_;simp;refine fQ ?_;refine Yc (ael v (by omega)) ?_;simp
