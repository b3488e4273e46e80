/- 46 -/
import Derived.Test.YtmehofoficaelaaGreatDoorV45
set_option linter.all false
open List renaming map_append→aE,length_map→bs,length→List.l
open Bool renaming false→bb,true→b4
open Int renaming toNat→Int.n
namespace Go.Proofs.YtmehofoficaelaaGreatDoor
open Go Go.AL Classical
set_option maxRecDepth 10000
set_option maxHeartbeats 8000000
noncomputable def Ch(A:mc)(v:List gg)(i:Int):gg:=if A.ov i=b4 then(A.rs i,0)else oP ((gt A.nx i).map λk=>gt v k)
def afw{v:List gg}(c:∀k:Int,0<=k->k<v.l->-4000<=(gt v k).2/\(gt v k).2<=4000){x:List Int}(b:∀k∈x,0<=k/\k<v.l):∀y∈x.map (λk=>gt v k),-4000<=y.2/\y.2<=4000:=λy a=>jS
def aem(l:List gg)(h0:0<l.l)(O:l.l<=4000000000)(K:∀x∈l,-4000<=x.2/\x.2<=4000):Wf T 135 [iw l] [] (Is (.agg [.i (oP l).1,.i (oP l).2])):=by
 refine Yg C4 ?_;simp[C4];refine gx.e ((0,0,0):Int×Nat×Nat) (λy=>[(0,iw l),(2,.ptr 0 0 0),(3,.gf 1 y.2.1 1 0 (ja (l.take y.1.n) 3).l),(4,.gf 2 y.2.2 1 0 (ja (l.take y.1.n) 1).l),(9,iw l),(10,.i l.l),(11,.i y.1)]) (λy=>[.row 86 0 [.i 0,.i 0],.row 3 y.2.1 (cl f1 (ja (l.take y.1.n) 3)),.row 3 y.2.2 (cl f1 (ja (l.take y.1.n) 1))]) (λy=>0<=y.1/\y.1<=l.l) (λy=>(l.l-y.1).n) ?_ ?_
 .simp
 rintro⟨i,t,s⟩ ⟨i0,I⟩;dsimp only at i0 I ⊢;have j:=Ow (l.take i.n) 3;have m:=Ow (l.take i.n) 1;rw[aJ]at j m
 by_cases hi:i<l.l
 .have e:=abk (l:=l) i0 hi;have C:(gt l i).1=3->ja (l.take (i+1).n) 3=ja (l.take i.n) 3 ++ [(gt l i).2]:=λh=>by rw[e,Oy h]
  have u:(gt l i).1≠3->ja (l.take (i+1).n) 3=ja (l.take i.n) 3:=λh=>by rw[e,Ox h]
  have D:(gt l i).1=1->ja (l.take (i+1).n) 1=ja (l.take i.n) 1 ++ [(gt l i).2]:=λh=>by rw[e,Oy h]
  have v:(gt l i).1≠1->ja (l.take (i+1).n) 1=ja (l.take i.n) 1:=λh=>by rw[e,Ox h]
  obtain⟨A,q⟩:∃A,ja (l.take i.n) 3=A:=⟨_,rfl⟩;obtain⟨B,p⟩:∃B,ja (l.take i.n) 1=B:=⟨_,rfl⟩;rw[q]at j C u ⊢;rw[p]at m D v ⊢;have n:((l.l:Int)-(i+1)).n<((l.l:Int)-i).n/\0<=i+1/\i+1<=l.l:=U;simp[hi];(with_reducible repeat' first|refine Xk ?_<;>try simp|refine Xs ?_ ?_<;>intro h<;>(try intro P)<;>(try simp[h])<;>try omega|refine Xg ?_|omega)
  .have b:=C ‹_›;have c:=v U;refine LJ.i (i+1,t+1,s) (by simp[b,c]) (by simp[b,c]) rfl rfl n
  .have b:=u U;have c:=D ‹_›;refine LJ.i (i+1,t,s+1) (by simp[b,c]) (by simp[b,c]) rfl rfl n
  .have b:=u jZ;have c:=v jZ;refine LJ.i (i+1,t,s) (by simp[b,c]) (by simp[b,c]) rfl rfl n
 .have H:i=l.l:=by omega
  subst H;rw[af U]at *;obtain⟨r,a⟩:∃r,oP l=r:=⟨_,rfl⟩;have z:∀o,∀y∈ja l o,-4000<=y/\y<=4000:=λo y J=>by have:=K _ (Au.1 J);exact this
  rw[a];unfold oP at a;obtain⟨A,q⟩:∃A,ja l 3=A:=⟨_,rfl⟩;obtain⟨B,p⟩:∃B,ja l 1=B:=⟨_,rfl⟩;have w:=z 3;have E:=z 1;rw[q]at j a w ⊢;rw[p]at m a E ⊢;have F:l≠[]:=ay.1 h0;simp[hi]
  by_cases g:A = []
  .rw[if_neg (λh=>h g)]at a;subst g
   by_cases f:B.l=l.l
   .rw[if_pos ⟨F,f⟩]at a;subst a;simp[f];refine gh ?_;refine gy.w mu ?_;refine gy.rq rfl rfl (f103 B U U) (by simp[f]) (λ_=>by simp[flat]) (λ_=>fZ) ?_;rintro r ⟨d,k⟩;have M:=Oe d;have L:=k _ (Oq (l:=B) λe=>by rw[e]at d;cases d);have e:r=yL B:=U;have N:=E r d;subst e;simp;exact mI
   .rw[if_neg (λh=>f h.2)]at a;subst a;simp[f];exact mI
  .rw[if_pos g]at a;subst a;have G:0<A.l:=ay.2 g;simp[G];refine gh ?_;refine gy.w mu ?_;refine gy.rq rfl rfl (f102 A U U) fZ (λ_=>by simp[flat]) (λ_=>fZ) ?_;rintro r ⟨d,k⟩;have M:=EO d;have L:=k _ (Av g);have e:r=th A:=U;have N:=w r d;subst e;simp;exact mI
def ad7(g:gq)(hg:gR g)(l:List Pos)(d:lZ g l)(h0:0<l.l)(v:List gg)(D:v.l=l.l)(G:∀k:Int,0<=k->k<v.l->-4000<=(gt v k).2/\(gt v k).2<=4000)(i:Int)(i0:0<=i)(n:i<l.l) :
  Wf T 81 [dG g,gP l,iw v,.i i] [] (Is (.tup [.b (decide (gt v i=Ch (jv g l (gE g l)) v i)),.i 0])):=by
 have t:=d.len;have m:=(pZ d (i:=i) i0 n).2;have q:=(pZ d (i:=i) i0 n).1;have s:=d.ok _ (gF i0 n);have z:(gE g l).l=l.l:=by simp[gE]
 have p:(gt (gE g l) i).l<=4000000000:=by rw[q,bs];have:=yN hg s;omega
 have f:(stat g (gt l i)).2=b4->((gt v i=Ch (jv g l (gE g l)) v i)↔gt v i=((stat g (gt l i)).1,0)):=λh=>by rw[Ch,if_pos (show(jv g l (gE g l)).ov i=b4 from h)];exact dH
 have a:(stat g (gt l i)).2=bb->((gt v i=Ch (jv g l (gE g l)) v i)↔gt v i=oP ((gt (gE g l) i).map λk=>gt v k)):=λh=>by rw[Ch,if_neg (by rw[show(jv g l (gE g l)).ov i=bb from h];simp)];exact dH
 have b:(stat g (gt l i)).2=bb->0<(gt (gE g l) i).l:=λh=>by
  rw[q,bs];have:iY g (gt l i)≠[]:=λe=>by unfold stat at h;simp[e]at h
  exact ay.2 this
 have cn:=f52 g hg l d h0;have cs:=f54 g hg (gt l i) s;generalize Xo:Ch (jv g l (gE g l)) v i=L at *;obtain⟨st,H⟩:∃st,stat g (gt l i)=st:=⟨_,rfl⟩;obtain⟨nx,B⟩:∃nx,gE g l=nx:=⟨_,rfl⟩;rw[H]at cs f a b;rw[B]at m p a b cn z;obtain⟨o,ov⟩:=st;dsimp only at f a b cs;refine Yg wK ?_;simp[wK];refine Yc (cn) ?_;simp;refine gh ?_;refine Yt (cs) ?_;simp;cases ov
 .have b:=b rfl;have a:=a rfl;simp[x7];refine gh ?_;obtain⟨x,C⟩:∃x,gt nx i=x:=⟨_,rfl⟩;rw[C]at m p b a ⊢;refine gx.e ((0,List.replicate x.l (0,0)):Int×List gg) (λy=>[(2,iw v),(3,.i i),(14,.gf 1 0 2 0 x.l),(66,dN 1 f1 x),(67,.i x.l),(68,.i y.1)]) (λy=>[.row 43 0 g.cells,.row 86 0 (cl fS y.2)]) (λy=>(0<=y.1/\y.1<=x.l)/\y.2.l=x.l/\∀j:Int,0<=j->j<y.1->gt y.2 j=gt v (gt x j)) (λy=>(x.l-y.1).n) ?_ ?_
  .grind
  rintro⟨k,M⟩ ⟨⟨k0,k1⟩,hM,w⟩;dsimp only at k0 k1 hM w ⊢
  by_cases c:k<x.l
  .have F:=m _ (gF k0 c);simp[c];refine gh ?_;refine LJ.i (k+1,pt M k (gt v (gt x k))) (by first|rfl|simp[Gj]) (by first|rfl|simp[Gj]) rfl rfl ?_;refine⟨U,iM,by rw[iW k0 U];exact hM,λj j0 j1=>?_⟩;dsimp only at j1 ⊢;rw[py k0 U j0]
   by_cases e:j=k
   .grind
   .grind
  .have A:k=x.l:=by omega
   have e:M=x.map λk=>gt v k:=by refine bg (by rw[bs];exact hM) λj j0 j1=>?_;have h:=w j U (by rw[A];omega);rw[iX U U,iX (l:=x) U U]at h;rw[List.getElem_map];exact h
   have u:=afw G (x:=x) (λk c=>by rw[D];exact m k c);rw[<-e]at u a;have cm:=aem M U U u;obtain⟨r,E⟩:∃r,oP M=r:=⟨_,rfl⟩;rw[E]at cm a;obtain⟨J,I⟩:=r;dsimp only at cm;simp[c];refine gh ?_;refine iZ.r rfl rfl cm (by simp[hM]) rfl fZ ?_;simp;refine gh ?_;rw[<-cZ];exact decide_eq_decide.2 (by rw[a,Prod.ext_iff])
 .have f:=f rfl;simp;refine gh ?_;rw[<-cZ];exact decide_eq_decide.2 (by rw[f,Prod.ext_iff])
noncomputable def Oa(A:mc)(n:Nat)(v:List gg)(i:Int):List D:=
 if v.l≠n then [.b bb,.i 70]else if i<0\/(n:Int)<=i then [.b bb,.i 1]else [.b (decide (gt v i=Ch A v i)),.i 0]
def V8(g:gq)(hg:gR g)(l:List Pos)(b:lZ g l)(h0:0<l.l)(v:List gg)(m:v.l<=4000)(e:∀k:Int,0<=k->k<v.l->-4000<=(gt v k).2/\(gt v k).2<=4000)(i:Int) :
  Wf T 37 [dG g,gP l,iw v,.i i] [] (Is (.agg (Oa (jv g l (gE g l)) l.l v i))):=by
 have d:=b.len;have cn:=f52 g hg l b h0;have j:(gE g l).l=l.l:=by simp[gE]
 unfold Oa
 by_cases a:v.l=l.l
 .rw[if_neg (λh=>h a)]
  by_cases hi:i<0\/(l.l:Int)<=i
  .rw[if_pos hi]
   have c:Wf T 81 [dG g,gP l,iw v,.i i] [] (Is (.tup [.b bb,.i 1])):=by
    refine Yg wK ?_;simp[wK];refine Yc (cn) ?_;simp;(with_reducible repeat' first|refine Xk ?_<;>try simp[a]|refine Xs ?_ ?_<;>intro h<;>(try intro f)<;>(try simp[h,a])<;>try omega|refine Xg ?_|omega)
    trace_state
   refine Yg wH ?_;simp[wH];refine Yc (c) ?_;simp
  .rw[if_neg hi];have c:=ad7 g hg l b h0 v a e i U U;refine Yg wH ?_;simp[wH];refine Yc (c) ?_;simp
 .rw[if_pos a]
  have c:Wf T 81 [dG g,gP l,iw v,.i i] [] (Is (.tup [.b bb,.i 70])):=by
   refine Yg wK ?_;simp[wK];refine Yc (cn) ?_;simp;(with_reducible repeat' first|refine Xk ?_<;>try simp[a]|refine Xs ?_ ?_<;>intro h<;>(try intro f)<;>(try simp[h,a])<;>try omega|refine Xg ?_|omega)
   trace_state
  refine Yg wH ?_;simp[wH];refine Yc (c) ?_;simp
set_option maxHeartbeats 4000000
structure B2 where
 a:Int
 b:Int
 deriving Inhabited
structure B2.ok(x:B2):Prop where
 a:0<=x.a/\x.a<256
 b:0<=x.b/\x.b<256
@[irreducible] def Qq(x:B2):List D:=[.val (.int .u8 x.a),.val (.int .u8 x.b)]
@[simp] theorem atw(x:B2):Qq x = [.val (.int .u8 x.a),.val (.int .u8 x.b)]:=by unfold Qq;rfl
instance:Fl Qq 2:=⟨λ_=>fZ,λ_=>by simp[gK]⟩
set_option maxHeartbeats 32000000
structure PF(V:List gg):Prop where
 len:V.l<=64
 bd:∀r∈V,r.2<=4000
theorem PF.ok{V:List gg}(h:PF V):(⟨su V,bb⟩:Cw).ok:=by have:=h.len;exact⟨(λh=>by cases h),this,yT V,by unfold su;dsimp only;omega,by unfold su;dsimp only;omega⟩
def adF(x:qx)(Y:Jr x)(ws:List B5)(ED:∀y∈ws,y.ok)(K m a b c:Int)(hK:0<=K/\K<256)(hT:0<=m/\m<256)(ha:0<=a/\a<256)(hb:0<=b/\b<256)(hc:0<=c/\c<256)(n:Int)(hn:nX n) :
  Wf T 9 [.agg x.cells,.agg [.sl 5 (ws.map f5),.val (.int .u8 K),.val (.int .u8 m),.val (.int .u8 a),.val (.int .u8 b),.val (.int .u8 c)],.i n] [] (Is (.b b4)):=by
 have j:x.cells.l=31:=by simp[qx.cells,Raw.cells,Y.len]
 have Sj:gK x.cells=true:=by have:=Vl x;simpa using this
 have nv:=aeO x Y;generalize x.cells=xs at *;obtain⟨X,rfl⟩:=V6 Sj;rw[sZ,eT]at j;have u:X.take 31=X:=af U;refine Yg Ju ?_;simp[Ju,j,u];refine Yc (adK) ?_;simp;refine kP j u ?_;simp[j,u];refine gy.q rfl rfl nv fZ (λy=>by obtain⟨g,p,b,l⟩:=y;cases b<;>simp[gK]) ?_;rintro⟨g,p,b,l⟩ ⟨hg,hp,f⟩;cases b
 .simp
 dsimp only at hg hp f;have J:=(f rfl).1;have QQ:=(f rfl).2;have d:=J.c2;have h0:=J.len.1;have B:=J.len.2;have ib:=λi i0 i1=>(pZ d (i:=i) i0 i1).2;simp;refine pK.eo rfl rfl rfl (aeQ g hg l d h0) fZ fZ λy hy=>?_;obtain⟨V,W⟩:=y;obtain⟨I,Xy⟩:=hy;dsimp only at I Xy
 have M:∀k:Int,0<=k->k<V.l->0<=(gt V k).2/\(gt V k).2<=4000:=λk k0 k1=>by have:=ahm (A:=jv g l (gE g l)) (v:=V) (n:=l.l) ib Xy (i:=k) k0 U;omega
 have Xx:∀r∈V,r.2<=4000:=λr C=>by obtain⟨k,k0,k1,rfl⟩:=yM.1 C;exact(M k k0 k1).2
 have D:0<V.l:=U;have GZ:V.l<=64:=U
 obtain⟨A,z,o⟩:∃A z,V=A ++ [z]:=⟨V.take (V.l-1),gt V (V.l-1),by
  have:=jt (l:=V) (n:=V.l-1) U U;rw[(U:((V.l:Int)-1+1).n=V.l),(U:((V.l:Int)-1).n=V.l-1),db]at this
  exact this⟩
 have R:A.l=l.l-1:=by rw[<-I,o];simp
 have Xe:A.l<=64:=U;have Xf:∀r∈A,r.2<=4000:=λr C=>Xx r (by rw[o];exact bz _ C);have f:cl fS V=cl fS A++cl fS [z]:=by rw[o];simp
 have U3:∀H:gd,H[3]? = some (.row 86 V.l (cl fS V))->∃F,Wf T 28 [.gf 3 V.l 2 0 (l.l-1)] H λd' Hn=>d' = .agg (uI 3 V.l A)/\Hn=H++F:=λH hH=>⟨_,by
  have:=adM A (cl fS [z]) Xe 3 V.l H (by rw[hH,f]);rw[R]at this
  exact this⟩
 have O:=acJ V.l A;have S:(⟨su A,bb⟩:Cw).ok:=(show PF A from⟨Xe,Xf⟩).ok;have Z:∀r∈(⟨su A,bb⟩:Cw).c.es,r.2<=4000:=Xf
 have BI:jr l.l (su A)=true:=by unfold jr snd su;simp;omega
 have N:(su A).hi<l.l:=by show(A.l:Int)<l.l;omega
 have t:=adO g hg l d h0 U (L:=[⟨su A,bb⟩]) (by simpa using S) (by simpa using Z) fZ;have q:=adR g hg l d h0 U (L:=[⟨su A,bb⟩]) (.inl rfl) (by simpa using S) (by simpa using Z) fZ;rw[show cs [(⟨su A,bb⟩:Cw)] = [su A]from rfl]at t q;rw[YW BI N]at t;rw[aoi BI N]at q;simp only[YV,List.map_cons,List.map_nil]at t q;have G:∀k:Int,0<=k->k<V.l->-4000<=(gt V k).2/\(gt V k).2<=4000:=λk k0 k1=>by have:=M k k0 k1;omega
 have MD:∀i:Int,(i<0\/(l.l:Int)<=i)->Wf T 37 [dG g,gP l,iw V,.i i] [] (Is (.agg [.b bb,.i 1])):=λi hi=>by have:=V8 g hg l d h0 V U G i;rwa [Oa,if_neg (λh=>h I),if_pos hi]at this
 have ME:Wf T 37 [dG g,gP l,iw A,.i 0] [] (Is (.agg [.b bb,.i 70])):=by
  have:=V8 g hg l d h0 A U (λk k0 k1=>by
   have e:gt A k=gt V k:=by rw[o,W6 k0 U]
   have:=M k k0 U
   rw[e];omega) 0
  rwa [Oa,if_pos U]at this
 have XV:∀H:gd,mT (λ_=>none) H 39 2 0 (l.l-1) (some (86,cl fS V))=iw A:=λH=>by rw[f,<-R];exact afm rfl
 have Q:∀e:Int,Wf T 29 [.agg [.i 0,.gi,.i e],.agg [.i 0,.gi,.i e]] [] (Is (.b b4)):=λe=>by have:=adN (a:=[]) (b:=[]) (x:=.gi) (y:=.gi) .e .e fZ 0 0 e e;rwa [decide_eq_true ⟨rfl,rfl,rfl⟩]at this
 have P:∀e:Int,Wf T 32 [.agg [.gi,.gi,.i e],.agg [.gi,.gi,.i e]] [] (Is (.b b4)):=λe=>by have:=adQ (v:=[]) (w:=[]) (a:=[]) (b:=[]) (x:=.gi) (y:=.gi) (r:=.gi) (s:=.gi) .e .e .e .e fZ fZ e e;rwa [decide_eq_true ⟨rfl,rfl,rfl⟩]at this
 have E:=λv=>adT g hg l d h0 B v 0;simp;refine gh ?_;refine gy.r rfl rfl (adL V ws K m a b c ED D GZ Xx hK hT ha hb hc) fZ (by simp[flat]) fZ ?_;simp;refine .inl (.inl (iZ.r rfl rfl (adP g hg l d h0 B) (by simp;unfold gP;rw[aE];rfl) (by simp[flat,oX]) fZ ?_));simp;refine .inl (.inl (iZ.r rfl rfl (adS g hg l d h0 B) (by simp;unfold gP;rw[aE];rfl) (by simp[flat,oX]) fZ ?_));simp;refine pb ?_;refine pK.r 3 (.row 86 V.l (cl fS V)) rfl fZ fZ O U3 ?_;simp;refine⟨MH _ _ _,?_⟩;rw[Vg (V:=V) rfl];refine .inl (.inl (iZ.r rfl rfl t (by simp[MH];exact Vh (b:=cl fS [z]) (by rw[<-f];rfl)) (by simp[flat,oX]) fZ ?_));simp;refine pb ?_;refine pK.r 3 (.row 86 V.l (cl fS V)) rfl fZ fZ O U3 ?_;simp;refine⟨MH _ _ _,?_⟩;rw[Vg (V:=V) rfl];refine .inl (.inl (iZ.r rfl rfl q (by simp[MH];exact Vh (b:=cl fS [z]) (by rw[<-f];rfl)) (by simp[flat,oX]) fZ ?_));simp;(with_reducible repeat' first|refine Xk ?_<;>try simp|refine Xs ?_ ?_<;>intro h<;>(try intro h')<;>(try simp[h])<;>try omega|refine Xg ?_|omega)
 all_goals
  refine gy.w mu ?_;refine gy.r rfl rfl (MD _ ?_) mu (by simp[flat,oX]) fZ ?_
  .omega
  simp;refine Yc (Q 70) ?_;simp;refine Yc (P 70) ?_;simp;refine Yc (Q 180) ?_;simp;refine Yc (P 180) ?_;simp;refine pb ?_;refine iZ.r rfl rfl ME (by simp[XV]) (by simp[flat,oX]) fZ ?_;simp;refine amF ?_;refine iZ.r rfl rfl (E (V ++ [((DO V (l.l-1)).fst,(DO V (l.l-1)).snd)])) (by simp;exact⟨by unfold gP;rw[aE];rfl,by unfold iw;rw[aE];simp⟩) (by simp[flat,oX]) fZ ?_;simp
