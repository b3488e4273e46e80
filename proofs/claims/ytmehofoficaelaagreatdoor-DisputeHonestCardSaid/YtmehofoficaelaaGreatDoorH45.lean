/- Part 45 of DisputeHonest. -/
import Derived.Test.YtmehofoficaelaaGreatDoorH44
set_option linter.all false
namespace Go.Proofs.YtmehofoficaelaaGreatDoor
open Go Go.AL Classical
set_option maxRecDepth 10000
set_option maxHeartbeats 32000000
attribute [-simp] uZ
theorem aax(x:pn)(hx:GD x)(ws:List B5)(Cj:∀y∈ws,y.ok)(K H a b c:Int)(hK:0<=K/\K<256)(hT:0<=H/\H<256)(R:0<=a/\a<256)(hb:0<=b/\b<256)(hc:0<=c/\c<256) :
  Wf T 5 [.agg x.cells,.agg [.sl 5 (ws.map f5),.val (.int .u8 K),.val (.int .u8 H),.val (.int .u8 a),.val (.int .u8 b),.val (.int .u8 c)]] [] (Is (.b true)):=by
 have G:x.cells.length=31:=by simp[pn.cells,Raw.cells,hx.len]
 have E:fR x.cells=true:=by have:=SJ x;simpa using this
 have Zj:=abv x hx;generalize x.cells=xs at *;obtain⟨X,rfl⟩:=Tr E;rw[s5,et]at G;have O:X.take 31=X:=af (by omega);refine Yz C7 (ik 34 [3] C7.body) ?_;simp[C7,ik,jG,me,mg,mq,kQ,G,O];refine Yc (aaz) ?_;simp;refine kl G O ?_;simp[G,O];refine fL.q rfl rfl Zj (by simp) (λy=>by obtain⟨g,p,b,l⟩:=y;cases b<;>simp[fR]) ?_;rintro⟨g,p,b,l⟩ ⟨hg,hp,U⟩;cases b
 .simp
 dsimp only at hg hp U;have N:=(U rfl).1;have N9:=(U rfl).2;have Eu:=N.c2;have h0:=N.len.1;have d':=N.len.2;have fZ:=λi i0 B=>(qy Eu (i:=i) i0 B).2;simp;refine Yq (abx g hg l Eu h0) λy e=>?_;obtain⟨V,W⟩:=y;obtain⟨Ux,I⟩:=e;dsimp only at Ux I
 have Om:∀k:Int,0<=k->k<V.length->0<=(gt V k).2/\(gt V k).2<=4000:=λk k0 k1=>by have:=ad3 (A:=lM g l (fQ g l)) (v:=V) (n:=l.length) fZ I (i:=k) k0 (by omega);omega
 have Uy:∀r∈V,r.2<=4000:=λr hr=>by obtain⟨k,k0,k1,rfl⟩:=w6.1 hr;exact(Om k k0 k1).2
 have Z:RU (lM g l (fQ g l)) l.length V:=⟨Ux,fZ,I,λi i0 B=>oX.lW (λo=>akK hg o) (I i i0 B)⟩;have S:0<V.length:=by omega
 have w:V.length<=64:=by omega
 simp;refine fo ?_;refine fL.on rfl rfl (aaA V ws K H a b c Cj S w Uy hK hT R hb hc) (by simp) λq g0 hP=>?_;simp;refine fo ?_;have Ov:=aaB V w;rw[show gS ⟨rn V,false⟩=cl gS [⟨rn V,false⟩]from(iF _).symm]at Ov;obtain⟨d,uj,E⟩:∃d:Cw,(⟨rn V,false⟩:Cw)=d/\d.c=rn V:=⟨_,rfl,rfl⟩;rw[uj]at Ov;have UG:(cl gS [d]).length=36:=by rw[s5];rfl
 have UH:(cl gS [d]).take 36=cl gS [d]:=af (by omega);have c6:=hP.1;have Un:(q ++ [d]).length<=11:=by simp;omega
 have Y:d.ok:=by rw[<-uj];exact⟨(λh=>by cases h),w,yL V,by unfold rn;dsimp only;omega,by unfold rn;dsimp only;omega⟩
 have M:∀y∈q ++ [d],y.ok:=λy e=>by
  rcases List.mem_append.1 e with e|e
  .exact(hP.2 y e).1.ok
  .rw[List.mem_singleton.1 e];exact Y
 have Uo:∀y∈q ++ [d],∀r∈y.c.es,r.2<=4000:=λy e=>by
  rcases List.mem_append.1 e with e|e
  .exact(hP.2 y e).1.b
  .rw[List.mem_singleton.1 e,E];exact Uy
 have C:=acR Z (L:=q ++ [d]) ⟨d,by simp,E⟩;have s:=aaC g hg l Eu h0 (by omega) M Uo (by omega);have D:List.map gS q ++ [gS d]=(q ++ [d]).map gS:=by simp
 refine Yc Ov ?_;simp[UG,UH];refine kl UG UH ?_;rw[D];obtain⟨L,t⟩:∃L,q ++ [d]=L:=⟨_,rfl⟩;rw[t]at Un M Uo C s ⊢;have iX:q.length+1=L.length:=by rw[<-t];simp
 obtain⟨J,hJ⟩:∃J,mA (lM g l (fQ g l)) l.length (iP l.length) (cs L)=J:=⟨_,rfl⟩;rw[hJ]at s C;clear hJ
 cases J with
 | tP=>exact C.elim
 | none=>
  unfold PC at s;refine Yc s ?_;simp[D,t];refine fo ?_;refine fE.s (by simp[D,t,iX];rfl) ?_;refine fE.e (0:Int) (λy=>[(5,.b true),(7,gQ V),(8,.sl 36 (L.map gS)),(10,.i y)]) (λ_=>_) (λy=>0<=y/\y<=L.length) (λy=>(L.length-y).toNat) ?_ ?_
  .simp
  rintro i ⟨i0,B⟩
  by_cases hi:i<L.length
  .have z:=M _ (fM i0 hi);have u:=Ts (gt L i) z V w;have j:(gS (gt L i)).length=36:=Fl.len _;have f:(gS (gt L i)).take 36=gS (gt L i):=af (by omega);have F:fR (gS (gt L i))=true:=Fl.cl _;rw[<-D8 z,C _ (fM i0 hi)]at u;simp[hi,i0,j,f];refine kl j f ?_;refine fL.c rfl rfl u (by simp[F]) (by simp) ?_;simp;refine fo ?_;refine LJ.e (i+1) ?_;omega
  .simp[hi]
 | v a ls=>
  obtain⟨gK,R,Pe,La,hk⟩:=C;unfold PC at s;refine Yc s ?_;simp[D,t,gK];refine ja gK ?_;refine fE.s (by simp[D,t,iX];rfl) ?_;refine fE.e (0:Int) (λy=>[(5,.b true),(6,.ptr 2 0 0),(7,gQ V),(8,.sl 36 (L.map gS)),(9,.ptr 5 0 0),(11,.i y)]) (λ_=>_) (λy=>0<=y/\y<=ls.length) (λy=>(ls.length-y).toNat) ?_ ?_
  .simp
  rintro i ⟨i0,B⟩
  by_cases hi:i<ls.length
  .have EE:=hk _ (fM i0 hi);have z:=M _ (fM EE.1.1 EE.1.2);have u:=Ts (gt L (gt ls i)) z V w;have j:(gS (gt L (gt ls i))).length=36:=Fl.len _;have f:(gS (gt L (gt ls i))).take 36=gS (gt L (gt ls i)):=af (by omega);have F:fR (gS (gt L (gt ls i)))=true:=Fl.cl _;rw[<-D8 z,EE.2]at u;have n1:¬gt ls i<0:=by omega
   have n2:¬(L.length:Int)<=gt ls i:=by omega
   have n3:0<i->¬gt ls i<=gt ls (i-1):=λm=>by have:=bh.1 Pe (i-1).toNat i.toNat (by omega) (by omega) (by omega);rw[jh i0 hi,jh (by omega) (by omega)];omega
   by_cases m:0<i
   .have Q:=n3 m
    have P:i-1<=9223372036854775807/\1<=i/\i-1<ls.length:=by omega
    simp[hi,i0,j,f,n1,n2,m,Q,P];(with_reducible repeat' first|refine Xk ?_<;>try simp[j,f,n1,n2,m,Q,P]|refine Xs ?_ ?_<;>intro h<;>(try intro h')<;>(try simp[h,j,f,n1,n2,m,Q,P])<;>try omega|refine Xg ?_|omega);refine fL.c rfl rfl u (by simp[F]) (by simp) ?_;simp;refine fo ?_;refine LJ.e (i+1) ?_;omega
   .simp[hi,i0,j,f,n1,n2,m];(with_reducible repeat' first|refine Xk ?_<;>try simp[j,f,n1,n2,m]|refine Xs ?_ ?_<;>intro h<;>(try intro h')<;>(try simp[h,j,f,n1,n2,m])<;>try omega|refine Xg ?_|omega);refine fL.c rfl rfl u (by simp[F]) (by simp) ?_;simp;refine fo ?_;refine LJ.e (i+1) ?_;omega
  .have wy:=R.1;have BX:a<l.length:=by omega
   simp[hi,wy,BX]
