/- Part 41 of DisputeWorkers. -/
import Derived.Test.YtmehofoficaelaaGreatDoorW40
set_option linter.all false
namespace Go.Proofs.YtmehofoficaelaaGreatDoor
open Go Go.AL Classical
set_option maxRecDepth 10000
set_option maxHeartbeats 16000000
attribute [-simp] uL
section
variable{H:U}{ck sr n:Nat}{M:Nat->kh}{ow:Nat->Nat×Nat×Nat}{P:Nat->Nat}{Q:Nat->Nat->Nat}
theorem ad8{p:Nat}{kk:KK}{es:List (Value×D)}(a:H[p]? = some (.map kk es)):Wf T 118 [.gD p] H (λd H'=>d = .b (decide (es.length=0))/\H'=H):=by refine Yg JK ?_;simp[JK,a]
theorem aeo(i:mj H ck sr n M ow P Q)(o:n<=1000):Wf T 185 [.fY sr 0 1 0 n,.fn (.func 118) [] []] H (λd H'=>∃v:Int,d = .i v/\H'=H/\(0<=v↔∃j,j<n/\(M j).length=0)):=by
 have k:=i.row;refine Yg JY ?_;simp[JY];refine gj.e (0:Int) (λy=>[(0,.fY sr 0 1 0 n),(1,.fn (.func 118) [] []),(7,.i n),(8,.i y)]) (λy=>H) (λy=>(0<=y/\y<=n)/\∀j,j<y.toNat->(M j).length≠0) (λy=>(n-y).toNat) ?_ ?_
 .exact⟨by simp,λj c=>absurd c (by simp)⟩
 rintro y ⟨⟨g,l⟩,f⟩;dsimp only at g l f ⊢
 by_cases b:y<n
 .obtain⟨m,_⟩:=i.mp y.toNat (by omega);have a:y.toNat<n:=by omega
  simp[b,k,a];refine qz b k a ?_;refine gx.kH rfl rfl (ad8 (H:=H) m) ?_;rintro _ H' ⟨rfl,rfl⟩;rw[Be]
  by_cases h0:(M y.toNat).length=0
  .rw[decide_eq_true h0];simp;refine gd ?_;exact⟨λ_=>⟨y.toNat,a,ay.1 h0⟩,λ_=>g⟩
  .rw[decide_eq_false h0];simp;refine gd ?_;refine LJ.i (y+1) (by simp) rfl rfl rfl ⟨by omega,iy,λj c=>?_⟩
   by_cases e:j=y.toNat
   .rw[e];exact h0
   .exact f j (by omega)
 .simp[b];refine gd ?_;exactλj c h=>f j (by omega) (by rw[h];rfl)
theorem ad7(a:mj H ck sr n M ow P Q)(c:n<=1000):Wf T 117 [.fY sr 0 1 0 n,.fn (.func 118) [] []] H (λd H'=>d = .b (decide (∃j,j<n/\(M j).length=0))/\H'=H):=by refine Yg JJ ?_;simp[JJ];refine gx.kH rfl rfl (aeo a c) ?_;rintro _ H' ⟨v,rfl,rfl,b⟩;simp;simpa using b
theorem mj.anO(h:mj H ck sr n M ow P Q){v:Nat}(f:ow v=(5,0,0))(o:Ob):mj (H.set v o) ck sr n M ow P Q:=by
 have key:∀(w:Nat) (x:Ob),H[w]? = some x->ow w≠(5,0,0)->(H.set v o)[w]? = some x:=λw x d g=>by rw[aB (λe=>g (by rw[<-e];exact f))];exact d
 refine⟨h.fc,h.fs,key _ _ h.row (by rw[h.fs];simp),λj b=>?_,λj b t x c=>?_⟩
 .obtain⟨h1,a⟩:=h.mp j b;exact⟨key _ _ h1 (by rw[a];simp),a⟩
 .obtain⟨h1,a⟩:=h.ls j b t x c;exact⟨key _ _ h1 (by rw[a];simp),a⟩
end
@[simp] theorem arD(cl:List gK):lj cl 0 = -1:=rfl
theorem abV(cl:List gK){y:Int}(a:0<=y):lj cl (y+1).toNat=FT cl (lj cl y.toNat) y:=by rw[show(y+1).toNat=y.toNat+1 by omega];unfold lj;rw[Jb,List.foldl_append,show((y.toNat:Nat):Int)=y by omega];rfl
def LiV(N:Nat)(H:U)(ls:List Int)(d:D):Prop:=d=dN 1 f1 ls\/(ls≠[]/\∃v g,d = .fY v g 1 0 ls.length/\H[v]? = some (.row 3 g (cl f1 ls))/\N<=v)
def VD(N:Nat)(H:U)(d:D):Jd->Prop
 | .v a ls=>∃x,d = .tup [.agg [.i a,x],.i 0]/\LiV N H ls x
 | .none=>d = .tup [.agg [.i 0,.gg],.i 270]
 | .A6=>d = .tup [.agg [.i 0,.gg],.i 180]
structure JP(g:gi)(l:List Pos)(nx:List (List Int))(dcl:D)(cm:List gK)(H H':U)(ck:Nat)(J:Jd)(d:D):Prop where
 vd:VD H.length H' d J
 ok:jj H'.length H'
 kp:∀v o,H[v]? = some o->v≠ck->H'[v]? = some o
 ct:∃sr,H'[ck]? = some (.row 168 0 (ko g l nx dcl (.fY sr 0 1 0 l.length)))/\(J = .none->∃ow P Q,mj H' ck sr l.length (λj:Nat=>gM cm (j:Int)) ow P Q/\∀v o,H[v]? = some o->v≠ck->ow v=(5,0,0))
theorem adU(g:gi)(hg:gV g)(l:List Pos)(A:pa g l)(h0:0<l.length)(h9:l.length<=1000){H:U}{ck:Nat}{L:List Cw}{old dcl:D}(hd:CV H ck L dcl)(gf:jj H.length H)
  (l9:H[ck]? = some (.row 168 0 (ko g l (gC g l) dcl old))) (hL:∀x∈L,x.ok) (hb:∀x∈L,∀r∈x.c.es,r.2<=4000) (h8:L.length<=100000) :
  Wf T 64 [.ptr ck 0 0] H (λd H'=>JP g l (gC g l) dcl (cs L) H H' ck (nh (jT g l (gC g l)) l.length (jn l.length) (cs L)) d):=by
 have Y:=wR L;have GN:=@agJ (jT g l (gC g l)) l.length (jn l.length) (cs L);have R:=@agM (jT g l (gC g l)) l.length (jn l.length) (cs L);have C:=@agN (jT g l (gC g l)) l.length (jn l.length) (cs L);have f:=@agK (jT g l (gC g l)) l.length (jn l.length) (cs L);obtain⟨J,hJ⟩:∃J,nh (jT g l (gC g l)) l.length (jn l.length) (cs L)=J:=⟨_,rfl⟩;rw[hJ]at GN R C f ⊢;rw[Y]at GN R C f;have yq:jj (H ++ [Ob.row 89 0 [.i 0,.gg]]).length (H ++ [Ob.row 89 0 [.i 0,.gg]]):=Ir gf rfl λo ho=>by rw[List.mem_singleton.1 ho];rfl
 have Xv:=jr l9;refine Yg Jx ?_;simp[Jx];refine gx.kH rfl rfl (ad6 (H:=H ++ [.row 89 0 [.i 0,.gg]]) (hd.app _) yq (iv l9) hL h8 h9 h0) ?_;rintro d H1 ⟨ow,P,Q,q⟩;obtain⟨m,h5⟩:=q.kp H.length (.row 89 0 [.i 0,.gg]) (by simp) (by omega);obtain⟨bad,BF⟩:∃bad,kf (λc => !jn l.length c) (cs L) L.length=bad:=⟨_,rfl⟩;rw[BF]at q GN R C f;have O:=q.ct
 have S:H1[ck]? = some (.row 168 0 [.i g.size,.sl 1 (g.next.map fI),dI g.jy,.sl 3 (g.kinds.map Kind.cells),.i g.gL,.b g.oK,dN 4 Clause.cells g.clauses,.i g.blocked,.i g.vo,gZ l,.sl 1 ((gC g l).map fN),dcl,.fY (H ++ [Ob.row 89 0 [.i 0,.gg]]).length 0 1 0 l.length]):=by rw[O];unfold ko;simp
 obtain⟨sr,c'⟩:∃sr,(H ++ [Ob.row 89 0 [.i 0,.gg]]).length=sr:=⟨_,rfl⟩;rw[c']at q O S;have qk:∀v o,H[v]? = some o->v≠ck->H1[v]? = some o:=λv o M A=>(q.kp v o (iv M) A).1
 have kQ:∀(x:Ob),ni H1.length x=true->jj (H1.set H.length x).length (H1.set H.length x)/\(∀v o,H[v]? = some o->v≠ck->(H1.set H.length x)[v]? = some o)/\(H1.set H.length x)[ck]? = some (.row 168 0 (ko g l (gC g l) dcl (.fY sr 0 1 0 l.length))):=λx b5=>by
  refine⟨by rw[ao];exact pD q.ok b5,λv o M A=>?_,?_⟩
  .rw[aB (by have:=jr M;omega)];exact qk v o M A
  .rw[aB (by omega)];exact O
 rcases q.bd with⟨tJ,rfl⟩|⟨BE,v,gn,rfl,tK,vC⟩
 .have BC:∀x∈L,jn l.length x.c=true:=λx G=>by
   have b:=BF;rw[tJ,<-Y,v7]at b
   cases e:jn l.length x.c with
   | true=>rfl
   | false=>exact absurd b (yA.2 ⟨x.c,ar.2 ⟨x,G,rfl⟩,by simp[e]⟩)
  have c5:hM (jn l.length) (cs L) L.length=λj:Nat=>gM (cs L) (j:Int):=funext λj=>by
   rw[<-Y]
   exact afw (λc A=>by
    obtain⟨x,G,rfl⟩:=ar.1 A
    exact BC x G) j
  have E:=q.sg;rw[c5]at E;have c7:=ad7 E h9;have qh:(ko g l (gC g l) dcl (.fY sr 0 1 0 l.length))[12]? = some (.fY sr 0 1 0 l.length):=by unfold ko;simp
  have Q0:∀x∈L,x.full:=λx G=>⟨hL x G,λ_=>by
   have:=BC x G;unfold jn at this;rw[Bool.and_eq_true]at this
   exact(IY this.1).2.2⟩
  have c0:∀j:Int,0<=j->j<l.length->∀r∈sd (cs L) j,r.2<=4000:=λj _ _ r hr=>by obtain⟨c,A,h1,rfl⟩:=sK.1 hr;obtain⟨x,G,rfl⟩:=ar.1 A;obtain⟨_,j0,j1⟩:=Cw.WT (Q0 x G) h1;exact hb x G _ (gy (by omega) j1)
  have R:=@R tJ;have C:=@C tJ;have f:=f tJ;have Z:∀j:Int,0<=j->gM (cs L) ((j.toNat:Nat):Int)=gM (cs L) j:=λj j0=>by rw[show((j.toNat:Nat):Int)=j by omega]
  have t:∀o,(H1.set H.length o)[H.length]? = some o:=λo=>aI (jr m);simp[S];refine jP S ?_;refine gx.kH rfl rfl c7 ?_;rintro _ H' ⟨rfl,rfl⟩
  by_cases he:∃j,j<l.length/\(gM (cs L) ((j:Nat):Int)).length=0
  .rw[decide_eq_true he];obtain⟨j,hj,nQ⟩:=he;have V:=@R (j:Int) (by omega) (by omega) (Nr.1 nQ);subst V;simp[m,t];refine lh m t ?_;obtain⟨f1,f2,f3⟩:=kQ (.row 89 0 [.i 0,.gg]) rfl;exact⟨rfl,f1,f2,sr,f3,λh=>by cases h⟩
  .rw[decide_eq_false he];have hs:∀j:Int,0<=j->j<l.length->sd (cs L) j≠[]:=λj j0 j1 h=>he ⟨j.toNat,by omega,by rw[Z j j0];exact Nr.2 h⟩;have C:=@C hs;have f:=f hs;have W8:(cs L).length<=100000:=by rw[Y];exact h8
   clear he GN R;simp[S];refine jP S ?_;refine gj.e (0:Int) (λy=>[(0,.ptr ck 0 0),(2,.ptr H.length 0 0),(27,.i l.length),(28,.i y)]) (λy=>H') (λy=>(0<=y/\y<=l.length)/\∀j:Int,0<=j->j<y->imp (cs L) j = []) (λy=>(l.length-y).toNat) ?_ ?_
   .exact⟨by simp,λj j0 j1=>by omega⟩
   rintro y ⟨⟨z,y1⟩,X⟩;dsimp only at z y1 X ⊢
   by_cases p:y<l.length
   .have Vz:=Qk (H:=H') E q.ok O qh W8 z (by omega) (Z y z) (w:=λr => !lC r) λr dst s K _ k=>Yc (ad9 r) k;obtain⟨I,W⟩:∃I,imp (cs L) y=I:=⟨_,rfl⟩;have c6:kf (λc=>jK c y && !lC (kI c y)) (cs L) (cs L).length=I:=W;rw[c6]at Vz;simp[p];refine gd ?_;refine gx.kH rfl rfl Vz ?_;rintro _ H2 ⟨rfl,rfl⟩
    by_cases hz:I = []
    .have rj:∀j:Int,0<=j->j<y+1->imp (cs L) j = []:=λj j0 j1=>by
      by_cases e:j=y
      .rw[e,W,hz]
      .exact X j j0 (by omega)
     subst hz;simp;refine gd ?_;refine LJ.i (y+1) (by simp) rfl rfl rfl ⟨by omega,iy,rj⟩
    .have V:=C z p (by rw[W];exact hz) X;rw[W]at V;subst V;have ke:0<I.length:=ax.2 hz;simp[m,t,ke];refine qz m t ke ?_;obtain⟨f1,f2,f3⟩:=kQ (.row 89 0 [.i y,dN 1 f1 I]) (by simp);exact⟨⟨_,rfl,.inl rfl⟩,f1,f2,sr,f3,λh=>by cases h⟩
   have yx:y=l.length:=by omega
   subst yx;have hp:∀j:Int,0<=j->j<l.length->∀r∈sd (cs L) j,lC r=true:=λj j0 j1=>imp_nil (X j j0 j1);have f:=f X;clear C X z y1 p;simp[S];refine jP S ?_;have N:=E.row;refine gj.e (0:Int) (λy=>[(0,.ptr ck 0 0),(2,.ptr H.length 0 0),(7,.i (lj (cs L) y.toNat)),(44,.fY sr 0 1 0 l.length),(45,.i l.length),(46,.i y)]) (λy=>H') (λy=>0<=y/\y<=l.length) (λy=>(l.length-y).toNat) ?_ ?_
   .simp
   rintro y ⟨z,y1⟩;dsimp only at z y1 ⊢
   by_cases p:y<l.length
   .have B:y.toNat<l.length:=by omega
    have F:H'[P y.toNat]? = some (.map KS (iV (Q y.toNat) 0 (gM (cs L) y))):=by have:=(E.mp y.toNat B).1;rw[Z y z]at this;exact this
    have hS:=abV (cs L) z
    have gH:0<=lj (cs L) y.toNat->lj (cs L) y.toNat<l.length:=λh=>by have:=(UU (n:=y.toNat) h).1;omega
    obtain⟨a,ha⟩:∃a,lj (cs L) y.toNat=a:=⟨_,rfl⟩;rw[ha]at hS gH ⊢;unfold FT at hS
    by_cases h1:1<(gM (cs L) y).length
    .have XA:=GF.1 h1
     by_cases b:a<0
     .rw[if_pos ⟨XA,.inl b⟩]at hS;simp[p,N,B,F,h1,b];(with_reducible repeat' first|refine Xk ?_<;>try simp[p,N,B,F,h1,b]|refine Xs ?_ ?_<;>intro h<;>(try intro h')<;>(try simp[h,p,N,B,F,h1,b])<;>try omega|refine Xg ?_|omega);refine LJ.i (y+1) (by simp[hS]) rfl rfl rfl mI
     .have Va:=Ql (H:=H') E q.ok O qh z (by omega) (Z y z) (hp y z p);have Vb:=Ql (H:=H') E q.ok O qh (by omega:0<=a) (by have:=gH (by omega);omega) (Z a (by omega)) (hp a (by omega) (gH (by omega)));obtain⟨u,hu⟩:∃u,me (sd (cs L) y)=u:=⟨_,rfl⟩;obtain⟨v,M⟩:∃v,me (sd (cs L) a)=v:=⟨_,rfl⟩;rw[hu]at Va;rw[M]at Vb;rw[hu,M]at hS;simp[p,N,B,F,h1,b];(with_reducible repeat' first|refine Xk ?_<;>try simp[p,N,B,F,h1,b]|refine Xs ?_ ?_<;>intro h<;>(try intro h')<;>(try simp[h,p,N,B,F,h1,b])<;>try omega|refine Xg ?_|omega);refine gx.kH rfl rfl Va ?_;rintro _ H2 ⟨rfl,rfl⟩;simp;refine gx.kH rfl rfl Vb ?_;rintro _ H2 ⟨rfl,rfl⟩
      by_cases h3:u<v
      .rw[if_pos ⟨XA,.inr h3⟩]at hS;simp[h3];refine jP h3 ?_;refine LJ.i (y+1) (by simp[hS]) rfl rfl rfl mI
      .rw[if_neg (λh=>by rcases h.2 with h|h<;>omega)]at hS;simp[h3];refine jP h3 ?_;refine LJ.i (y+1) (by simp[hS]) rfl rfl rfl mI
    .rw[if_neg (λh=>h1 (GF.2 h.1))]at hS;simp[p,N,B,F,h1];(with_reducible repeat' first|refine Xk ?_<;>try simp[p,N,B,F,h1]|refine Xs ?_ ?_<;>intro h<;>(try intro h')<;>(try simp[h,p,N,B,F,h1])<;>try omega|refine Xg ?_|omega);refine LJ.i (y+1) (by simp[hS]) rfl rfl rfl mI
   have yx:y=l.length:=by omega
   subst yx;rw[bt];have hD:=@UU (cs L) l.length;have F1:=λi=>aeb g hg l A rfl E q.ok O W8 (i:=i);obtain⟨a,ha⟩:∃a,lj (cs L) l.length=a:=⟨_,rfl⟩;rw[ha]at f hD ⊢
   by_cases b:a<0
   .rw[if_pos b]at f;subst f;simp[b,m,t];refine qz b m t ?_;obtain⟨f1,f2,f3⟩:=kQ (.row 89 0 [.i 0,.gg]) rfl;exact⟨rfl,f1,f2,sr,f3,λ_=>⟨ow,P,Q,E.anO h5 _,λv o M A=>(q.kp v o (iv M) A).2⟩⟩
   .rw[if_neg b]at f;have hD:=hD (by omega);have F1:=F1 a (by omega) hD.1 (λj hj=>rfl) hp c0 hs;rw[Y]at F1;obtain⟨I,W⟩:∃I,kf (rF (jT g l (gC g l)) (cs L) a) (cs L) L.length=I:=⟨_,rfl⟩;rw[W]at F1 f;subst f;simp[b,m,t];refine qz b m t ?_;refine gx.kH rfl rfl F1 ?_;rintro _ H2 ⟨rfl,rfl⟩;simp[m,t];refine lh m t ?_;obtain⟨f1,f2,f3⟩:=kQ (.row 89 0 [.i a,dN 1 f1 I]) (by simp);exact⟨⟨_,rfl,.inl rfl⟩,f1,f2,sr,f3,λh=>by cases h⟩
 .have ke:0<bad.length:=ax.2 BE;have t:∀o,(H1.set H.length o)[H.length]? = some o:=λo=>aI (jr m);have V:=GN BE;subst V;have iH:=jr tK;obtain⟨f1,f2,f3⟩:=kQ (.row 89 0 [.i (-1),.fY v gn 1 0 bad.length]) (by simp[iH]);simp[m,t];refine lh m t ?_
  have c4:H.length<=v:=by
   refine fo λgG=>?_
   by_cases e:v=ck
   .rw[e,O]at tK;simp at tK
   .have:=(q.kp v _ (iv (List.getElem?_eq_getElem gG)) e).2;rw[vC]at this;simp at this
  exact⟨⟨_,rfl,.inr ⟨BE,v,gn,rfl,by rw[aB (λe=>by rw[<-e,h5]at vC;simp at vC)];exact tK,c4⟩⟩,f1,f2,sr,f3,λh=>by cases h⟩
end Go.Proofs.YtmehofoficaelaaGreatDoor
namespace Go.Proofs.YtmehofoficaelaaGreatDoor
open Go Go.AL Classical
set_option maxRecDepth 10000
set_option maxHeartbeats 16000000
attribute [-simp] uL
end Go.Proofs.YtmehofoficaelaaGreatDoor
namespace Go.Proofs.YtmehofoficaelaaGreatDoor
open Go Go.AL Classical
def eS:Env:=[(11,.ptr 2 0 0),(12,.ptr 4 0 0)]
def tC(l:List Int)(k:Int):List Int:=l.take k.toNat++l.drop (k.toNat+1)
theorem adi{l:List Int}{k:Int}(k0:0<=k)(k1:k<l.length):(tC l k).length=l.length-1:=by unfold tC;rw[ak,aK,aR];omega
structure LS(H0 H:U)(q rv:Nat)(st:qx)(left gW:List Int)(ld:D):Prop where
 nq:H[2]? = some (.row 37 0 [ld])
 vw:(gW = []/\ld = .gg)\/(gW≠[]/\∃v g,(4<v/\(v=q\/H0.length<=v))/\ld = .fY v g 1 0 gW.length/\H[v]? = some (.row 3 g (cl f1 gW)))
 arr:∃zs,gF zs=true/\H[3]? = some (.row 3 0 (cl f1 left++zs))
 nu:H[4]? = some (.row 37 0 [.fY 3 0 1 0 left.length])
 ok:jj H.length H
 CD:4<rv
 rc:H[rv]? = some (.ib 1280 eS st)
 kp:∀w o,H0[w]? = some o->(4<w\/w<=1)->w≠rv->w≠q->H[w]? = some o
 le:H0.length<=H.length
section
variable{H0 H:U}{q rv:Nat}{st:qx}{left gW:List Int}{ld:D}
theorem LS.len(h:LS H0 H q rv st left gW ld):4<H.length:=jr h.nu
theorem LS.TA(h:LS H0 H q rv st left gW ld)(st':qx):LS H0 (H.set rv (.ib 1280 eS st')) q rv st' left gW ld:=by
 have key:∀ {w:Nat} {o:Ob},H[w]? = some o->w≠rv->(H.set rv (.ib 1280 eS st'))[w]? = some o:=λf j=>by rw[aB (cu j)];exact f
 have i:=h.CD;refine⟨key h.nq (by omega),?_,?_,key h.nu (by omega),?_,i,aI (jr h.rc),λw o h1 c b a=>key (h.kp w o h1 c b a) b,by rw[ao];exact h.le⟩
 .rcases h.vw with h1|⟨h1,v,g,c,b,a⟩
  .exact .inl h1
  .exact .inr ⟨h1,v,g,c,b,key a λe=>by rw[e,h.rc]at a;cases a⟩
 .obtain⟨zs,d,h1⟩:=h.arr;exact⟨zs,d,key h1 (by omega)⟩
 .rw[ao];refine pD h.ok ?_;have:=h.len;show((ju H.length (.ptr 2 0 0))&&((ju H.length (.ptr 4 0 0))&&true))=true;simp;omega
theorem LS.more(h:LS H0 H q rv st left gW ld){o:Ob}(f:ni (H.length+1) o=true):LS H0 (H ++ [o]) q rv st left gW ld:=by
 refine⟨iv h.nq,?_,?_,iv h.nu,?_,h.CD,iv h.rc,λw o h1 c b a=>iv (h.kp w o h1 c b a),by rw[ak];have:=h.le;omega⟩
 .rcases h.vw with h1|⟨h1,v,g,c,b,a⟩
  .exact .inl h1
  .grind
 .obtain⟨zs,d,h1⟩:=h.arr;exact⟨zs,d,iv h1⟩
 .rw[ak,aY];refine uk (xq (by omega) h.ok) λx e=>?_;rw[List.mem_singleton.1 e];exact f
theorem LS.amM(h:LS H0 H q rv st left [] .gg)(x:Int):LS H0 ((H.set 2 (.row 37 0 [.fY H.length 0 1 0 1])) ++ [.row 3 0 (cl f1 [x])]) q rv st left [x] (.fY H.length 0 1 0 1):=by
 have hl:=h.len;have b:=h.CD;have key:∀ {w:Nat} {o:Ob},H[w]? = some o->w≠2->((H.set 2 (.row 37 0 [.fY H.length 0 1 0 1])) ++ [.row 3 0 (cl f1 [x])])[w]? = some o:=λg i=>by grind
 refine⟨?_,.inr ⟨by simp,H.length,0,⟨hl,.inr h.le⟩,rfl,?_⟩,?_,key h.nu (by omega),?_,b,key h.rc (by omega),λw o h1 e d c=>key (h.kp w o h1 e d c) (by omega),by rw[ak,ao];have:=h.le;omega⟩
 .grind
 .grind
 .obtain⟨zs,a,h1⟩:=h.arr;exact⟨zs,a,key h1 (by omega)⟩
 .rw[ak,ao,aY];refine uk (pD (xq (by omega) h.ok) ?_) λy f=>?_
  .simp_all
  .simp_all
theorem LS.amN{v g:Nat}(a:v=q\/H0.length<=v)(h:LS H0 H q rv st left gW (.fY v g 1 0 gW.length))(hl:gW≠[])(m:4<v)(b:H[v]? = some (.row 3 g (cl f1 gW)))(x:Int) :
  LS H0 ((H.set v (.row 3 (g+1) (cl f1 (gW ++ [x])))).set 2 (.row 37 0 [.fY v (g+1) 1 0 (gW.length+1)])) q rv st left (gW ++ [x]) (.fY v (g+1) 1 0 (gW.length+1)):=by
 have i:=h.CD;have d:=jr b;have c:rv≠v:=λe=>by rw[<-e,h.rc]at b;cases b
 have key:∀ {w:Nat} {o:Ob},H[w]? = some o->w≠2->w≠v->((H.set v (.row 3 (g+1) (cl f1 (gW ++ [x])))).set 2 (.row 37 0 [.fY v (g+1) 1 0 (gW.length+1)]))[w]? = some o:=λn p r=>by grind
 refine⟨aI (by rw[ao];have:=h.len;omega),.inr ⟨by simp,v,g+1,⟨m,a⟩,by simp,?_⟩,?_,key h.nu (by omega) (by omega),?_,i,key h.rc (by omega) c,λw o h1 l k j=>key (h.kp w o h1 l k j) (by omega) λe=>?_,by rw[ao,ao];exact h.le⟩
 .grind
 .obtain⟨zs,f,h1⟩:=h.arr;exact⟨zs,f,key h1 (by omega) (by omega)⟩
 .rw[ao,ao];refine pD (pD h.ok (yN _)) ?_;show((ju H.length (.fY v (g+1) 1 0 (gW.length+1)))&&true)=true;simp[d]
 .rcases a with a|a
  .omega
  .have:=jr h1;omega
theorem LS.del(h:LS H0 H q rv st left gW ld){zs:List D}(b:gF zs=true)(m:H[3]? = some (.row 3 0 (cl f1 left++zs))){k:Int}(k0:0<=k)(k1:k<left.length) :
  LS H0 ((H.set 3 (.row 3 0 (cl f1 (tC left k) ++ .i 0::zs))).set 4 (.row 37 0 [.fY 3 0 1 0 (left.length-1)])) q rv st (tC left k) gW ld:=by
 have i:=h.CD;have hl:=h.len;have key:∀ {w:Nat} {o:Ob},H[w]? = some o->w≠3->w≠4->((H.set 3 (.row 3 0 (cl f1 (tC left k) ++ .i 0::zs))).set 4 (.row 37 0 [.fY 3 0 1 0 (left.length-1)]))[w]? = some o:=λj l n=>by grind
 refine⟨key h.nq (by omega) (by omega),?_,⟨.i 0::zs,by simpa[gF]using b,?_⟩,?_,?_,i,key h.rc (by omega) (by omega),λw o h1 f e c=>key (h.kp w o h1 f e c) (by omega) (by omega),by rw[ao,ao];exact h.le⟩
 .rcases h.vw with h1|⟨h1,v,g,f,e,c⟩
  .exact .inl h1
  .grind
 .grind
 .rw[aI (by rw[ao];omega),adi k0 k1]
 .rw[ao,ao];refine pD (pD h.ok ?_) ?_
  .refine List.all_eq_true.2 λd a=>?_;rcases List.mem_append.1 a with a|a
   .exact AK (mo (uJ _) d a)
   .rcases av.1 a with rfl|a
    .rfl
    .exact AK (mo b d a)
  .show((ju H.length (.fY 3 0 1 0 (left.length-1)))&&true)=true;simp;omega
end
end Go.Proofs.YtmehofoficaelaaGreatDoor
namespace Go.Proofs.YtmehofoficaelaaGreatDoor
open Go Go.AL Classical
set_option maxRecDepth 10000
set_option maxHeartbeats 8000000
theorem TX(w:Wk)(v:List fZ)(lo:Int):∀n k,k<n->(mA w v lo n)[k]? = some (xF w v (lo+k))
 | n+1,k,h=>by
  rw[mA]
  by_cases a:k<n
  .rw[ah (by rw[yY];exact a)];exact TX w v lo n k a
  .have:k=n:=by omega
   subst this;rw[ai (by rw[yY];omega),yY];simp
def tw(v:List fZ)(lo:Int)(n:Nat):List fZ:=(v.drop lo.toNat).take n
theorem CS{v:List fZ}{lo:Int}{n:Nat}(h:lo.toNat+n<=v.length):(tw v lo n).length=n:=by unfold tw;rw[aK,aR];omega
theorem abp{v:List fZ}{lo:Int}{n k:Nat}(h0:0<=lo)(h:lo.toNat+n<=v.length)(a:k<n):(tw v lo n)[k]? = some (gt v (lo+k)):=by unfold tw;rw[fw a,aG,jg (by omega) (by omega),List.getElem?_eq_getElem (by omega)];congr 2;omega
theorem TY{w:Wk}{v:List fZ}{lo:Int}{n:Nat}(h0:0<=lo)(h:lo.toNat+n<=v.length)(b:w.kind≠4\/w.pos<lo\/lo+n<=w.pos):mA w v lo n=tw v lo n:=by
 refine bI λk=>?_
 by_cases a:k<n
 .rw[TX w v lo n k a,abp h0 h a];unfold xF;rw[if_neg (by omega)]
 .rw[bk (by rw[yY];omega),bk (by rw[CS h];omega)]
theorem aoV{w:Wk}{v:List fZ}{lo:Int}{n:Nat}(h0:0<=lo)(h:lo.toNat+n<=v.length)(d:w.kind=4)(h1:lo<=w.pos)(e:w.pos<lo+n):mA w v lo n=pt (tw v lo n) (w.pos-lo) (w.lr,w.lk):=by
 refine bI λk=>?_
 have b:pt (tw v lo n) (w.pos-lo) (w.lr,w.lk)=(tw v lo n).set (w.pos-lo).toNat (w.lr,w.lk):=by unfold pt;rw[bY,if_pos (by rw[CS h];omega)]
 rw[b]
 by_cases a:k<n
 .rw[TX w v lo n k a];unfold xF
  by_cases c:lo+k=w.pos
  .rw[if_pos ⟨d,c⟩,show(w.pos-lo).toNat=k by omega,aI (by rw[CS h];exact a)]
  .rw[if_neg (by omega),aB (by omega),abp h0 h a]
 .rw[bk (by rw[yY];omega),bk (by rw[ao,CS h];omega)]
def CF:Ob:=.map (.int .i64) [(.int .i64 1,.fn (.func 243) [] []),(.int .i64 3,.fn (.func 244) [] []),(.int .i64 4,.fn (.func 245) [] [])]
theorem Gr:Wf T 183 [] [] (λd H'=>d = .gD 0/\H' = [CF]):=by refine Yg JX ?_;simp[JX];rfl
theorem aeA{H:U}{v gen:Nat}{m:Nat}(w:Wk)(t lo:Int)(gf:jj H.length H)(b:v<H.length):Wf T 243 [.agg w.cells,.i t,.i lo,.fY v gen 2 0 m] H (λd H'=>d = .tup [.fY v gen 2 0 m,.b true]/\H'=H):=by have a:=λG=>wh (G:=G) gf (d:=.tup [.fY v gen 2 0 m,.b true]) (by simp[b]);unfold Wk.cells;refine Yg J8 ?_;simp[J8,a]
theorem aeB{H:U}{v gen:Nat}{m:Nat}(w:Wk)(t lo:Int)(gf:jj H.length H)(b:v<H.length):Wf T 244 [.agg w.cells,.i t,.i lo,.fY v gen 2 0 m] H (λd H'=>d = .tup [.fY v gen 2 0 m,.b (decide (w.n<=t))]/\H'=H):=by have a:=λG=>wh (G:=G) gf (d:=.tup [.fY v gen 2 0 m,.b (decide (w.n<=t))]) (by simp[b]);unfold Wk.cells at *;refine Yg J9 ?_;simp[J9,a]
theorem Wm{H:U}{v gen:Nat}{A:List fZ}(w:Wk)(t lo:Int)(p:A.length<=64)(m:0<=lo/\lo<=64)(g:w.ok)(gf:jj H.length H)(h:H[v]? = some (.row 86 gen (cl fS A))) :
  Wf T 245 [.agg w.cells,.i t,.i lo,.fY v gen 2 0 A.length] H (λd H'=>d = .tup [.fY v gen 2 0 A.length,.b true] /\
   H'=if lo<=w.pos/\w.pos<lo+A.length then H.set v (.row 86 gen (cl fS (pt A (w.pos-lo) (w.lr,w.lk))))else H):=by
 have j:=g.pos;have k:=g.n;obtain⟨kind,pos,n,lr,lk⟩:=w;unfold Wk.cells;dsimp only at j k ⊢;have f:=jr h;have a:∀R:U,(H++R)[v]? = some (.row 86 gen (cl fS A)):=λR=>iv h;have l:∀(R:U) (o:Ob),(H++R).set v o=H.set v o++R:=λR o=>aM _ _ f;have e:ju H.length (.tup [.fY v gen 2 0 A.length,.b true])=true:=by simp[f]
 have c:=λG=>wh (G:=G) gf e;have h0:0<=pos-lo\/¬lo<=pos:=by omega
 by_cases h1:lo<=pos
 .by_cases b:pos<lo+A.length
  .rw[if_pos ⟨h1,b⟩,<-F9];have i:=λG=>Y' (H:=H.set v (.row 86 gen ((cl fS A).take ((pos-lo).toNat*2) ++ .i lr :: .i lk::(cl fS A).drop ((pos-lo).toNat*2+2)))) (G:=G) (d:=.tup [.fY v gen 2 0 A.length,.b true]) (ao) (pD gf (by rw[F9];simp)) e;refine Yg zc ?_;simp[zc,h1,b,a,l,i];omega
  .rw[if_neg (by omega)];refine Yg zc ?_;simp[zc,h1,b,a,c];omega
 .rw[if_neg (by omega)];refine Yg zc ?_;simp[zc,h1,a,c]
@[simp] theorem ay9(f:gP)(l:List fZ)(lo hi:Option X):tq f 2 (gY l) lo hi=(ig f lo 0).bind λa=>(ig f hi l.length).bind λh=>if 0<=a/\a<=h/\h<=l.length then some (gY ((l.drop a.toNat).take (h.toNat-a.toNat)))else none:=by unfold gY;rw[O8,List.length_map];simp only[IX]
@[simp] theorem avR(n v:Nat):kE n (.gD v) = .gD (v+n):=rfl
@[simp] theorem axf(v:Nat):mO (.gD v)=true:=rfl
theorem ad5(w:Wk)(o:w.ok)(who t lo hi:Int)(v:List fZ)(h0:0<=lo)(h1:lo<hi)(u:hi<=v.length)(J:v.length<=64)(I:0<=who/\who<=1000) :
  Wf T 115 [.agg w.cells,.i who,.i t,gY v,.i lo,.i hi] [] (Is (if yX w t=true then .tup [.agg (gR ⟨⟨who,lo,hi,mA w v lo (hi-lo).toNat,ki (mA w v lo (hi-lo).toNat)⟩,false⟩),.b true]else .tup [.agg ([.i 0,.i 0,.i 0,.gg]++cl fU (zs 32)),.b false])):=by
 have F:=o.kind;have E:=o.pos;have D:=o.n;have k:lo.toNat+(hi-lo).toNat<=v.length:=by omega
 have s:hi.toNat-lo.toNat=(hi-lo).toNat:=by omega
 have i:(v.drop lo.toNat).take (hi-lo).toNat=tw v lo (hi-lo).toNat:=rfl;have cC:=f82 (tw v lo (hi-lo).toNat) (by rw[CS k];omega) (by rw[CS k];omega);have x:=CS (lo:=lo) (n:=(hi-lo).toNat) k;have c:(mA w v lo (hi-lo).toNat).length<=64:=by rw[yY];omega
 have n1:¬lo<0:=by omega
 have n2:¬hi<lo:=by omega
 have b:¬(v.length:Int)<hi:=by omega
 have p:n5 CF=true:=rfl;obtain⟨kind,pos,n,lr,lk⟩:=w;unfold yX at *;dsimp only at F E D ⊢;rcases(show kind=1\/kind=2\/kind=3\/kind=4 by omega)with rfl|rfl|rfl|rfl
 .have g:=TY (w:=⟨1,pos,n,lr,lk⟩) h0 k (.inl (by simp));rw[g]at c ⊢;obtain⟨A,m⟩:∃A,tw v lo (hi-lo).toNat=A:=⟨_,rfl⟩;rw[m]at cC c i x ⊢;have e:=Gq (v:=A) (.inl rfl) c;have a:=xv A;rw[zC,EL a];obtain⟨r,l⟩:∃r,ki A=r:=⟨_,rfl⟩;rw[l]at e a ⊢;have j:r.take 32=r:=af (by omega);unfold Wk.cells;refine Yg uC ?_;simp[uC,n1,n2,b];refine pK.n rfl rfl Gr (by simp) (by simp[p]) ?_;simp[CF];(with_reducible repeat' first|refine Xk ?_<;>try simp[n1,n2,b]|refine Xs ?_ ?_<;>intro h<;>(try intro d)<;>(try simp[h,n1,n2,b])<;>try omega|refine Xg ?_|omega);simp[h0,u,eF h1,s,i];refine pK.n rfl rfl cC (by simp) (by simp) ?_;simp;(with_reducible repeat' first|refine Xk ?_<;>try simp|refine Xs ?_ ?_<;>intro h<;>(try intro d)<;>(try simp[h])<;>try omega|refine Xg ?_|omega);refine gx.kH rfl rfl (aeA ⟨1,pos,n,lr,lk⟩ t lo (by simp) (by simp)) ?_;rintro _ _ ⟨rfl,rfl⟩;simp;(with_reducible repeat' first|refine Xk ?_<;>try simp|refine Xs ?_ ?_<;>intro h<;>(try intro d)<;>(try simp[h])<;>try omega|refine Xg ?_|omega);refine gx.r rfl rfl e (by simp) (by simp[flat]) (by simp) ?_;simp[a,j,CH,A8];rfl
 .unfold Wk.cells;refine Yg uC ?_;simp[uC,n1,n2,b];refine pK.n rfl rfl Gr (by simp) (by simp[p]) ?_;simp[CF]
 .have g:=TY (w:=⟨3,pos,n,lr,lk⟩) h0 k (.inl (by simp));rw[g]at c ⊢;obtain⟨A,m⟩:∃A,tw v lo (hi-lo).toNat=A:=⟨_,rfl⟩;rw[m]at cC c i x ⊢;have e:=Gq (v:=A) (.inl rfl) c;have a:=xv A;rw[zC,EL a];obtain⟨r,l⟩:∃r,ki A=r:=⟨_,rfl⟩;rw[l]at e a ⊢;have j:r.take 32=r:=af (by omega);unfold Wk.cells;refine Yg uC ?_;simp[uC,n1,n2,b];refine pK.n rfl rfl Gr (by simp) (by simp[p]) ?_;simp[CF];(with_reducible repeat' first|refine Xk ?_<;>try simp[n1,n2,b]|refine Xs ?_ ?_<;>intro h<;>(try intro d)<;>(try simp[h,n1,n2,b])<;>try omega|refine Xg ?_|omega);simp[h0,u,eF h1,s,i];refine pK.n rfl rfl cC (by simp) (by simp) ?_;simp;(with_reducible repeat' first|refine Xk ?_<;>try simp|refine Xs ?_ ?_<;>intro h<;>(try intro d)<;>(try simp[h])<;>try omega|refine Xg ?_|omega);refine gx.kH rfl rfl (aeB ⟨3,pos,n,lr,lk⟩ t lo (by simp) (by simp)) ?_;rintro _ _ ⟨rfl,rfl⟩
  by_cases q:n<=t
  .simp[q];(with_reducible repeat' first|refine Xk ?_<;>try simp[q]|refine Xs ?_ ?_<;>intro h<;>(try intro d)<;>(try simp[h,q])<;>try omega|refine Xg ?_|omega);refine gx.r rfl rfl e (by simp) (by simp[flat]) (by simp) ?_;simp[a,j,CH,A8,q];rfl
  .simp[q]
 .unfold Wk.cells
  by_cases C:lo<=pos/\pos<hi
  .have g:=aoV (w:=⟨4,pos,n,lr,lk⟩) h0 k rfl C.1 (by dsimp only;omega);dsimp only at g;rw[g]at c ⊢;obtain⟨B,G⟩:∃B,tw v lo (hi-lo).toNat=B:=⟨_,rfl⟩;rw[G]at cC c i x ⊢;have z:(pt B (pos-lo) (lr,lk)).length=B.length:=iP (by omega) (by omega);have f:=λ(H:U) (gf:jj H.length H) (y:H[3]? = some (.row 86 1 (cl fS B)))=>Wm (H:=H) (v:=3) (gen:=1) (A:=B) ⟨4,pos,n,lr,lk⟩ t lo (by omega) ⟨h0,by omega⟩ o gf y;dsimp only at f;simp only[if_pos (show lo<=pos/\pos<lo+(B.length:Int)from⟨C.1,by omega⟩)]at f;obtain⟨A,m⟩:∃A,pt B (pos-lo) (lr,lk)=A:=⟨_,rfl⟩;rw[m]at c z f ⊢;have e:=Gq (v:=A) (.inl rfl) c;have a:=xv A;rw[zC,EL a];obtain⟨r,l⟩:∃r,ki A=r:=⟨_,rfl⟩;rw[l]at e a ⊢;have j:r.take 32=r:=af (by omega);unfold Wk.cells at f;refine Yg uC ?_;simp[uC,n1,n2,b];refine pK.n rfl rfl Gr (by simp) (by simp[p]) ?_;simp[CF];(with_reducible repeat' first|refine Xk ?_<;>try simp[n1,n2,b]|refine Xs ?_ ?_<;>intro h<;>(try intro d)<;>(try simp[h,n1,n2,b])<;>try omega|refine Xg ?_|omega);simp[h0,u,eF h1,s,i];refine pK.n rfl rfl cC (by simp) (by simp) ?_;simp;(with_reducible repeat' first|refine Xk ?_<;>try simp|refine Xs ?_ ?_<;>intro h<;>(try intro d)<;>(try simp[h])<;>try omega|refine Xg ?_|omega);refine gx.kH rfl rfl (f _ (by simp) (by simp)) ?_;rintro _ _ ⟨rfl,rfl⟩;simp;(with_reducible repeat' first|refine Xk ?_<;>try simp|refine Xs ?_ ?_<;>intro h<;>(try intro d)<;>(try simp[h])<;>try omega|refine Xg ?_|omega);rw[<-z];refine gx.r rfl rfl e (by simp) (by simp[flat]) (by simp) ?_;simp[a,j,CH,A8];rfl
  .have g:=TY (w:=⟨4,pos,n,lr,lk⟩) h0 k (.inr (by dsimp only;omega));rw[g]at c ⊢;obtain⟨A,m⟩:∃A,tw v lo (hi-lo).toNat=A:=⟨_,rfl⟩;rw[m]at cC c i x ⊢;have f:=λ(H:U) (gf:jj H.length H) (y:H[3]? = some (.row 86 1 (cl fS A)))=>Wm (H:=H) (v:=3) (gen:=1) (A:=A) ⟨4,pos,n,lr,lk⟩ t lo (by omega) ⟨h0,by omega⟩ o gf y;dsimp only at f;simp only[if_neg (show¬(lo<=pos/\pos<lo+(A.length:Int))by omega)]at f;have e:=Gq (v:=A) (.inl rfl) c;have a:=xv A;rw[zC,EL a];obtain⟨r,l⟩:∃r,ki A=r:=⟨_,rfl⟩;rw[l]at e a ⊢;have j:r.take 32=r:=af (by omega);unfold Wk.cells at f;refine Yg uC ?_;simp[uC,n1,n2,b];refine pK.n rfl rfl Gr (by simp) (by simp[p]) ?_;simp[CF];(with_reducible repeat' first|refine Xk ?_<;>try simp[n1,n2,b]|refine Xs ?_ ?_<;>intro h<;>(try intro d)<;>(try simp[h,n1,n2,b])<;>try omega|refine Xg ?_|omega);simp[h0,u,eF h1,s,i];refine pK.n rfl rfl cC (by simp) (by simp) ?_;simp;(with_reducible repeat' first|refine Xk ?_<;>try simp|refine Xs ?_ ?_<;>intro h<;>(try intro d)<;>(try simp[h])<;>try omega|refine Xg ?_|omega);refine gx.kH rfl rfl (f _ (by simp) (by simp)) ?_;rintro _ _ ⟨rfl,rfl⟩;simp;(with_reducible repeat' first|refine Xk ?_<;>try simp|refine Xs ?_ ?_<;>intro h<;>(try intro d)<;>(try simp[h])<;>try omega|refine Xg ?_|omega);refine gx.r rfl rfl e (by simp) (by simp[flat]) (by simp) ?_;simp[a,j,CH,A8];rfl
theorem ab9(ws:List Wk)(t:TypeId)(n:Nat):rK t (.sl 5 (ws.map oP)) n=some (.ptr n 0 0,.new (.row t 0 [.sl 5 (ws.map oP)])):=rfl
theorem adT(ws:List Wk)(v P:List fZ)(t:Int):Wf T 62 [.sl 5 (ws.map oP),gY v,.sl 2 (P.map fS),.i t] [] (Is (.fn (.func 114) [] [.gu [.sl 5 (ws.map oP)],.gu [.sl 2 (P.map fS)],.gu [.i t],.gu [gY v]])):=by refine Yg Jw ?_;simp[Jw,ab9 ws,rK]
def BX(A:List Cw):U:=
 if A = []then [.row 63 0 [.gg],.ja,.ib 1216 [(10,.ptr 0 0 0)] .ready]
 else [.row 63 0 [.fY 3 (A.length-1) 36 0 A.length],.ja,.ib 1216 [(10,.ptr 0 0 0)] .ready,.row 72 (A.length-1) (cl gR A)]
theorem vM{A:List Cw}(h:A≠[]):BX A = [.row 63 0 [.fY 3 (A.length-1) 36 0 A.length],.ja,.ib 1216 [(10,.ptr 0 0 0)] .ready,.row 72 (A.length-1) (cl gR A)]:=if_neg h
theorem na.w{T:iB}{v:Nat}{args:List D}{dst:Option Nat}{s a:St}{K:St->Prop}(hs:s=a)(h:na T v args dst a K .mk):na T v args dst s K .mk:=by subst hs;exact h
theorem aoY(x:Cw)(w:Wk)(p:fZ){dst:Option Nat}{env:Env}{K:St->Prop}
  (h:K { env:=put env dst (.b true),H:=[.row 63 0 [.fY 7 0 36 0 1],.ja,.ib 1216 [(10,.ptr 0 0 0)] .ready,.row 149 0 [.i w.kind,.i w.pos,.i w.n,.i w.lr,.i w.lk],.row 204 0 [.i p.1,.i p.2],.row 72 0 (cl gR [x]),.row 72 0 (cl gR [x]),.row 72 0 (cl gR [x])] }) :
  na T 2 [.agg (cl gR [x])] dst { env:=env,H:=[.row 63 0 [.gg],.ja,.ib 1216 [(10,.ptr 0 0 0)] .ready,.row 149 0 [.i w.kind,.i w.pos,.i w.n,.i w.lr,.i w.lk],.row 204 0 [.i p.1,.i p.2],.row 72 0 (cl gR [x])] } K .mk:=by
 have b:(cl gR [x]).length=36:=by rw[qJ];rfl
 have a:(cl gR [x]).take 36=cl gR [x]:=af (by omega);refine na.r (rf:=1216) (env0:=[(10,.ptr 0 0 0)]) (Rd:=wL) rfl rfl rfl wL.a wL.b (nj rfl) (nj rfl) ?_;simp[wL,b,a];exact h
theorem aoZ(A:List Cw)(x:Cw)(w:Wk)(p:fZ)(c:A≠[])(d:A.length<=100){dst:Option Nat}{env:Env}{K:St->Prop}
  (h:K { env:=put env dst (.b true),H:=[.row 63 0 [.fY 3 (A.length-1+1) 36 0 (A.length+1)],.ja,.ib 1216 [(10,.ptr 0 0 0)] .ready,.row 72 (A.length-1+1) (cl gR (A ++ [x])),.row 149 0 [.i w.kind,.i w.pos,.i w.n,.i w.lr,.i w.lk],.row 204 0 [.i p.1,.i p.2],.row 72 0 (cl gR [x]),.row 72 0 (cl gR [x])] }) :
  na T 2 [.agg (cl gR [x])] dst { env:=env,H:=[.row 63 0 [.fY 3 (A.length-1) 36 0 A.length],.ja,.ib 1216 [(10,.ptr 0 0 0)] .ready,.row 72 (A.length-1) (cl gR A),.row 149 0 [.i w.kind,.i w.pos,.i w.n,.i w.lr,.i w.lk],.row 204 0 [.i p.1,.i p.2],.row 72 0 (cl gR [x])] } K .mk:=by
 have b:(cl gR [x]).length=36:=by rw[qJ];rfl
 have a:(cl gR [x]).take 36=cl gR [x]:=af (by omega);refine na.r (rf:=1216) (env0:=[(10,.ptr 0 0 0)]) (Rd:=wL) rfl rfl rfl wL.a wL.b (nj rfl) (nj rfl) ?_;simp[wL,b,a];exact p9 h
theorem ad4(ws:List Wk)(v P:List fZ)(t:Int)(F:∀w∈ws,w.ok)(J:ws.length<=8)(G:v.length<=64)(C:∀p∈P,0<=p.1/\p.1<p.2/\p.2<=(v.length:Int))(l:0<P.length) :
  Wf T 114 [.iT 2,.gu [.sl 5 (ws.map oP)],.gu [gY P],.gu [.i t],.gu [gY v]] (BX []) (λ_ H'=>H'=BX (ry ws v P t ws.length)):=by
 have s:BX [] = [.row 63 0 [.gg],.ja,.ib 1216 [(10,.ptr 0 0 0)] .ready]:=rfl;have r:(BX []).length=3:=rfl;have d:¬P = []:=λe=>by rw[e]at l;cases l
 refine Yg JH ?_;simp[JH];(with_reducible repeat' first|refine Xk ?_<;>try simp|refine Xs ?_ ?_<;>intro h<;>(try intro j)<;>(try simp[h])<;>try omega|refine Xg ?_|omega);refine gj.e ((0,[]):Int×List Cw) (λy=>[(0,.iT 2),(2,.gu [gY P]),(3,.gu [.i t]),(4,.gu [gY v]),(11,.sl 5 (ws.map oP)),(12,.i ws.length),(13,.i y.1)]) (λy=>BX y.2) (λy=>(0<=y.1/\y.1<=ws.length)/\y.2=ry ws v P t y.1.toNat) (λy=>(ws.length-y.1).toNat) ?_ ?_
 .simp[ry]
 rintro⟨i,A⟩ ⟨⟨i0,E⟩,o⟩;dsimp only at i0 E o ⊢
 have I:A.length<=8:=by have:=OS (ws:=ws) (v:=v) (P:=P) (t:=t) i.toNat;rw[o];omega
 rw[r]
 by_cases hi:i<ws.length
 .have g:gA i P.length=i % P.length:=jH i0;have b:0<=i % (P.length:Int):=bL _ (by omega);have a:i % (P.length:Int)<P.length:=bE _ (by omega);have q:=C _ (gy b a);have c:=ad5 (gt ws i) (F _ (gy i0 hi)) i t (gt P (i % P.length)).1 (gt P (i % P.length)).2 v q.1 q.2.1 q.2.2 G ⟨i0,by omega⟩;rw[show(gt ws i).cells = [.i (gt ws i).kind,.i (gt ws i).pos,.i (gt ws i).n,.i (gt ws i).lr,.i (gt ws i).lk]from rfl]at c
  have k:ry ws v P t (i+1).toNat=A++(if yX (gt ws i) t=true then [o8 (gt ws i) i (gt P (i % P.length)) v]else []):=by rw[show(i+1).toNat=i.toNat+1 by omega,ry,<-o,show((i.toNat:Nat):Int)=i by omega]
  by_cases u:yX (gt ws i) t=true
  .rw[if_pos u]at c k;rw[show(⟨⟨i,(gt P (i % P.length)).1,(gt P (i % P.length)).2,mA (gt ws i) v (gt P (i % P.length)).1 ((gt P (i % P.length)).2-(gt P (i % P.length)).1).toNat,ki (mA (gt ws i) v (gt P (i % P.length)).1 ((gt P (i % P.length)).2-(gt P (i % P.length)).1).toNat)⟩,false⟩:Cw)=o8 (gt ws i) i (gt P (i % P.length)) v by unfold o8;rfl]at c;obtain⟨x,z⟩:∃x,o8 (gt ws i) i (gt P (i % P.length)) v=x:=⟨_,rfl⟩;rw[z]at c k;clear z;rw[show gR x=cl gR [x]from(iQ _).symm]at c;have n:(cl gR [x]).length=36:=by rw[qJ];rfl
   have m:(cl gR [x]).take 36=cl gR [x]:=af (by omega)
   by_cases f:A = []
   .subst f;rw[s];simp[hi,l,d,g,b,a,i0,rP];(with_reducible repeat' first|refine Xk ?_<;>try simp[g,b,a,rP,d]|refine Xs ?_ ?_<;>intro h<;>(try intro j)<;>(try simp[h,g,b,a,rP,d])<;>try omega|refine Xg ?_|omega);refine gx.c rfl rfl c (by simp) (by simp) ?_;simp[n,m];(with_reducible repeat' first|refine Xk ?_<;>try simp[n,m]|refine Xs ?_ ?_<;>intro h<;>(try intro j)<;>(try simp[h,n,m])<;>try omega|refine Xg ?_|omega);refine na.w (by simp[b,a,d,rP];rfl) ?_;refine aoY x (gt ws i) (gt P (i % P.length)) ?_;simp;(with_reducible repeat' first|refine Xk ?_<;>try simp|refine Xs ?_ ?_<;>intro h<;>(try intro j)<;>(try simp[h])<;>try omega|refine Xg ?_|omega);refine LJ.i (i+1,[x]) (by first|rfl|simp[vM (show [x]≠[]by simp)]) (by first|rfl|simp[vM (show [x]≠[]by simp)]) rfl rfl ?_;exact⟨by dsimp only;omega,iy,k.symm⟩
   .rw[vM f];simp[hi,l,d,g,b,a,i0,rP];(with_reducible repeat' first|refine Xk ?_<;>try simp[g,b,a,rP,d]|refine Xs ?_ ?_<;>intro h<;>(try intro j)<;>(try simp[h,g,b,a,rP,d])<;>try omega|refine Xg ?_|omega);refine gx.c rfl rfl c (by simp) (by simp) ?_;simp[n,m];(with_reducible repeat' first|refine Xk ?_<;>try simp[n,m]|refine Xs ?_ ?_<;>intro h<;>(try intro j)<;>(try simp[h,n,m])<;>try omega|refine Xg ?_|omega);refine na.w (by simp[b,a,d,rP];rfl) ?_;refine aoZ A x (gt ws i) (gt P (i % P.length)) f (by omega) ?_;simp;(with_reducible repeat' first|refine Xk ?_<;>try simp|refine Xs ?_ ?_<;>intro h<;>(try intro j)<;>(try simp[h])<;>try omega|refine Xg ?_|omega);have B:A.length-1+1=A.length:=by have:=ax.2 f;omega
    refine LJ.i (i+1,A ++ [x]) (by first|rfl|simp[vM (show A ++ [x]≠[]by simp),B]) (by first|rfl|simp[vM (show A ++ [x]≠[]by simp),B]) rfl rfl ?_;exact⟨by dsimp only;omega,iy,k.symm⟩
  .rw[if_neg u]at c k;rw[az]at k;have H:(cl fU (zs 32)).length=32:=by simp
   by_cases f:A = []
   .subst f;rw[s];simp[hi,l,d,g,b,a,i0,rP];(with_reducible repeat' first|refine Xk ?_<;>try simp[g,b,a,d]|refine Xs ?_ ?_<;>intro h<;>(try intro j)<;>(try simp[h,g,b,a,d])<;>try omega|refine Xg ?_|omega);refine gx.c rfl rfl c (by simp) (by simp) ?_;simp;(with_reducible repeat' first|refine Xk ?_<;>try simp|refine Xs ?_ ?_<;>intro h<;>(try intro j)<;>(try simp[h])<;>try omega|refine Xg ?_|omega);refine LJ.e (i+1,[]) ?_;exact⟨by dsimp only;omega,iy,k.symm⟩
   .rw[vM f];simp[hi,l,d,g,b,a,i0,rP];(with_reducible repeat' first|refine Xk ?_<;>try simp[g,b,a,d]|refine Xs ?_ ?_<;>intro h<;>(try intro j)<;>(try simp[h,g,b,a,d])<;>try omega|refine Xg ?_|omega);refine gx.c rfl rfl c (by simp) (by simp) ?_;simp;(with_reducible repeat' first|refine Xk ?_<;>try simp|refine Xs ?_ ?_<;>intro h<;>(try intro j)<;>(try simp[h])<;>try omega|refine Xg ?_|omega);refine LJ.i (i+1,A) (by first|rfl|simp[vM f]) (by first|rfl|simp[vM f]) rfl rfl ?_;exact⟨by dsimp only;omega,iy,k.symm⟩
 .have D:i=ws.length:=by omega
  subst D;rw[bt]at o;rw[<-o]
  by_cases f:A = []
  .subst f;rw[s];simp
  .rw[vM f];simp
theorem adC(ws:List Wk)(v:List fZ)(k t:Int)(j:∀w∈ws,w.ok)(m:ws.length<=8)(p:0<v.length)(l:v.length<=64)(k0:1<=k)(k9:k<=4000)
  {R:List Cw} (g:ry ws v (n9 v.length (min k v.length).toNat 0) t ws.length=R) :
  Wf T 19 [.sl 5 (ws.map oP),gY v,.i k,.i t] [] (Is (xY R)):=by
 have h:=adS v.length k (by omega) (by omega) k0 k9;have d:=zz (n:=v.length) (k:=(min k v.length).toNat) (a:=0) (by omega) (by omega);have o:=Dw (n:=v.length) (k:=(min k v.length).toNat) (a:=0);obtain⟨P,hP⟩:∃P,n9 v.length (min k v.length).toNat 0=P:=⟨_,rfl⟩;rw[hP]at h d o g;clear hP;have c:¬P.length=0:=by omega
 have i:¬P = []:=λe=>by rw[e]at c;exact c rfl
 refine Yg Jn ?_;simp[Jn];refine Yc (h) ?_;simp;simp[c,i];refine gd ?_;refine Yc (adT ws v P t) ?_;simp;refine sT.r (f:=114) (first:=[]) (cap:=[.gu [.sl 5 (ws.map oP)],.gu [.sl 2 (P.map fS)],.gu [.i t],.gu [gY v]]) rfl rfl rfl rfl ?_;simp;refine Wf.mono (ad4 ws v P t j m l d (by omega)) ?_;rintro _ H' rfl;rw[g];refine⟨[(10,.ptr 0 0 0)],.ready,?_,?_⟩
 .by_cases b:R = []
  .rw[b];rfl
  .rw[vM b];rfl
 by_cases b:R = []
 .subst b;rw[show BX [] = [.row 63 0 [.gg],.ja,.ib 1216 [(10,.ptr 0 0 0)] .ready]from rfl];simp;rfl
 .rw[vM b];simp;exact(if_neg b).symm
end Go.Proofs.YtmehofoficaelaaGreatDoor
namespace Go.Proofs.YtmehofoficaelaaGreatDoor
open Go Go.AL Classical
set_option maxRecDepth 10000
set_option maxHeartbeats 16000000
attribute [-simp] uL
theorem V'{H:U}{v gen t:Nat}{zs:List D}{l:List Int}{i:Int}{K:D->U->Prop}(i0:0<=i)(hi:i<l.length)(a:H[v]? = some (.row t gen (cl f1 l++zs)))
  (k:K (.fY v gen 1 0 (l.length-1)) (H.set v (.row t gen (cl f1 (tC l i) ++ .i 0::zs)))):Wf T 66 [.fY v gen 1 0 l.length,.i i,.i (i+1)] H K:=by
 obtain⟨n,rfl⟩:∃n:Nat,i=n:=⟨i.toNat,by omega⟩;have b:n<l.length:=by omega
 have e:(l.take n++l.drop (n+1) ++ [0]).map (λn=>D.i n)++zs=cl f1 (tC l n) ++ .i 0::zs:=by unfold tC;rw[zt,bt,List.map_append,aL];rfl
 rw[zt]at a;rw[<-e]at k;exact Ev.sZ l n rfl b a ⟨_,_,rfl,k⟩
theorem adV{x:D}(a:cellsOf x=some [x])(H:U):Wf T 65 [x] H (λd H'=>d = .fn (.func 124) [] [.ptr H.length 0 0]/\H'=H ++ [.row 37 0 [x]]):=by refine Yg Jy ?_;simp[Jy,rK,a]
theorem aoX{H0 H:U}{q rv:Nat}{left gW:List Int}{ld:D}(h:LS H0 H q rv .ready left gW ld)(X:gW.length<=100000)(Q:left.length<=100000){k i:Int}(k0:0<=k)(k1:k<left.length){dst:Option Nat}{env:Env}{K:St->Prop}
  (F:∀H' L,LS H0 H' q rv .ready (tC left k) (gW ++ [gt left k]) L->H.length<=H'.length->K { env:=put env dst (.b true),H:=H' }):na T rv [.i i,.i k] dst { env:=env,H:=H } K .mk:=by
 have b:=h.TA .busy;have E:=h.len;have Z:=jr h.rc;have Y:=h.CD;refine na.r (rf:=1280) (env0:=eS) (Rd:=Dh) (by exact h.rc) rfl rfl Dh.a Dh.b (nj rfl) (nj rfl) ?_;have y:=h.rc;unfold eS at y;simp[Dh,eS,y];obtain⟨a,u⟩:∃a,H.set rv (.ib 1280 [(11,.ptr 2 0 0),(12,.ptr 4 0 0)] .busy)=a:=⟨_,rfl⟩;have DN:a.length=H.length:=by rw[<-u,ao]
 rw[show eS = [(11,.ptr 2 0 0),(12,.ptr 4 0 0)]from rfl,u]at b;rw[u];clear u y;obtain⟨zs,C,N⟩:=b.arr;have f:∀R:U,(a++R)[2]? = some (.row 37 0 [ld]):=λR=>iv b.nq;have g:=b.nu;have c:=N
 have hg:(cl f1 left++zs)[k.toNat]? = some (.i (gt left k)):=by rw[ah (by rw[qJ];omega),zt,au,List.getElem?_eq_getElem (by omega),jg k0 k1];rfl
 have e:¬(2=a.length):=by omega
 have J:2<a.length:=by omega
 have W:∀R:U,(a++R)[3]? = some (.row 3 0 (cl f1 left++zs)):=λR=>iv c;have l:∀(R:U) (o:Ob),(a++R).set 2 o=a.set 2 o++R:=λR o=>aM _ _ J;have w:∀(o:Ob) (R:U),(a.set 2 o++R)[4]? = some (.row 37 0 [.fY 3 0 1 0 left.length]):=λo R=>iv (by rw[aB (by omega)];exact g);have I:∀(o:Ob) (R:U),(a.set 2 o++R)[3]? = some (.row 3 0 (cl f1 left++zs)):=λo R=>iv (by rw[aB (by omega)];exact c);rcases b.vw with⟨rfl,rfl⟩|⟨O,v,r,⟨V,A⟩,rfl,B⟩
 .have z:∀(o:Ob) (R:U) (i:Nat),(a.set 2 o++R)[a.length+i]? = R[i]? := λo R i=>by rw[ai (by rw[ao];omega),ao];congr 1;omega
  simp[f,b.nq,g,c,hg,k0,k1,e,l,z,w];(with_reducible repeat' first|refine Xk ?_<;>try simp[f,b.nq,g,c,hg,k0,k1,e,l,z,w]|refine Xs ?_ ?_<;>intro h<;>(try intro S)<;>(try simp[h,f,b.nq,g,c,hg,k0,k1,e,l,z,w])<;>try omega|refine Xg ?_|omega);refine gx.w (by simp[f,b.nq,e,l];rfl) ?_;refine gx.kH rfl rfl (V' (K:=λd H'=>d = .fY 3 0 1 0 (left.length-1)/\H'=(a.set 2 (Ob.row 37 0 [D.fY (a.length+1) 0 1 0 1]) ++ [Ob.row 3 0 [D.i (gt left k)],Ob.row 3 0 [D.i (gt left k)]]).set 3 (Ob.row 3 0 (cl f1 (tC left k)++D.i 0::zs))) k0 k1 (I _ _) ⟨rfl,rfl⟩) ?_;rintro _ _ ⟨rfl,rfl⟩;simp[w]
  have j:=((b.more (o:=.row 3 0 [.i (gt left k)]) rfl).amM (gt left k)).del (zs:=zs) C (by rw[l,aL];exact I _ _) k0 k1
  rw[l,aL,ak,aY]at j;have p:=j.rc;simp only[iQ,bU,bq,show f1 (gt left k) = [D.i (gt left k)]by simp]at j p;simp[p];exact F _ _ (j.TA .ready) (by simp;omega)
 .have P:=jr B;have m:∀R:U,(a++R)[v]? = some (.row 3 r (cl f1 gW)):=λR=>iv B;have x:∀(R:U) (o:Ob),(a++R).set v o=a.set v o++R:=λR o=>aM _ _ P;have M:v≠2:=by omega
  have t:∀(o:Ob) (R:U),(a.set v o++R)[2]? = some (.row 37 0 [.fY v r 1 0 gW.length]):=λo R=>iv (by rw[aB M];exact b.nq);have s:∀(o o':Ob) (R:U),((a.set v o).set 2 o'++R)[4]? = some (.row 37 0 [.fY 3 0 1 0 left.length]):=λo o' R=>iv (by rw[aB (by omega),aB (by omega)];exact g);have G:∀(o o':Ob) (R:U),((a.set v o).set 2 o'++R)[3]? = some (.row 3 0 (cl f1 left++zs)):=λo o' R=>iv (by rw[aB (by omega),aB (by omega)];exact c);have n:∀(o o':Ob) (R:U),(a.set v o++R).set 2 o'=(a.set v o).set 2 o'++R:=λo o' R=>aM _ _ (by rw[ao];exact J);simp[f,b.nq,g,c,hg,k0,k1,e,m,x,t,n,s];(with_reducible repeat' first|refine Xk ?_<;>try simp[f,b.nq,g,c,hg,k0,k1,e,m,x,t,n,s]|refine Xs ?_ ?_<;>intro h<;>(try intro S)<;>(try simp[h,f,b.nq,g,c,hg,k0,k1,e,m,x,t,n,s])<;>try omega|refine Xg ?_|omega);refine gx.w (by simp[f,b.nq,e,m,x,t,n];rfl) ?_;refine gx.kH rfl rfl (V' (K:=λd H'=>d = .fY 3 0 1 0 (left.length-1)/\H'=((a.set v (Ob.row 3 (r+1) (cl f1 (gW ++ [gt left k])))).set 2 (Ob.row 37 0 [D.fY v (r+1) 1 0 (gW.length+1)]) ++ [Ob.row 3 0 [D.i (gt left k)]]).set 3 (Ob.row 3 0 (cl f1 (tC left k)++D.i 0::zs))) k0 k1 (G _ _ _) ⟨rfl,rfl⟩) ?_;rintro _ _ ⟨rfl,rfl⟩;simp[s];have j:=(((b.amN A O V B (gt left k))).more (o:=.row 3 0 [.i (gt left k)]) rfl).del (zs:=zs) C (G _ _ _) k0 k1;have p:=j.rc;simp[p];exact F _ _ (j.TA .ready) (by simp;omega)
end Go.Proofs.YtmehofoficaelaaGreatDoor
namespace Go.Proofs.YtmehofoficaelaaGreatDoor
open Go Go.AL Classical
theorem aoD{n k:Nat}(h:k<n):∃R:List Int,upto n=upto k++(k:Int)::R/\∀p∈R,(k:Int)<p:=by
 refine⟨(List.range' (k+1) (n-(k+1))).map λi:Nat=>(i:Int),?_,λp a=>?_⟩
 .unfold upto
  rw[show((k:Int)::(List.range' (k+1) (n-(k+1))).map λi:Nat=>(i:Int))=(List.range' k (n-k)).map λi:Nat=>(i:Int)by rw[show n-k=(n-(k+1))+1 by omega,cG];rfl,<-List.map_append]
  congr 1;rw[cK,cK];have:=List.range'_append (s:=0) (m:=k) (n:=n-k) (step:=1);rw[show k+(n-k)=n by omega,Nat.one_mul,aQ]at this;exact this.symm
 .obtain⟨i,hi,rfl⟩:=ar.1 a;rw[List.mem_range'_1]at hi;omega
theorem anm{left S:List Int}{k:Nat}(h:k<left.length)(hS:∀p∈S,(k:Int)<p) :
  ∃R,mP left S=left.take k++gt left k::R/\mP left ((k:Int)::S)=left.take k++R:=by
 obtain⟨R,f,g⟩:=aoD h
 have e:∀S:List Int,(∀p∈S,(k:Int)<p\/p=k)->((upto k).filter λp => !S.contains p)=upto k:=λS hS=>eP.2 λp a=>by have:=jc.1 a;simp only[c9,dq,decide_eq_false_iff_not];intro c;rcases hS p c with h|h<;>omega
 have d:((upto k).map λp=>gt left p)=left.take k:=by
  refine br (by simp[pI];omega) λi h1 j=>?_;rw[List.getElem_map,List.getElem_take];have hi:i<k:=by simpa[pI]using h1
  have:(upto k)[i]'(by rw[pI];exact hi)=(i:Int):=by simp[upto]
  rw[this,jg (by omega) (by omega)];simp
 refine⟨(R.filter λp => !S.contains p).map λp=>gt left p,?_,?_⟩
 .unfold mP
  have b:(!S.contains (k:Int))=true:=by simp only[c9,dq,decide_eq_false_iff_not];intro c;have:=hS _ c;omega
  rw[f,dj,e S λp a=>.inl (hS p a),List.map_append,d,List.filter_cons,if_pos b];rfl
 .unfold mP;have b:¬(!((k:Int)::S).contains (k:Int))=true:=by simp
  rw[f,dj,e _ λp a=>?_,List.map_append,d,List.filter_cons,if_neg b]
  .congr 2;refine List.filter_congr λp a=>?_;have:=g p a;simp;omega
  .rcases av.1 a with rfl|a
   .exact .inr rfl
   .exact .inl (hS p a)
theorem aaz(left:List Int):mP left []=left:=by
 unfold mP;rw[eP.2 (by simp)];refine br (by simp[pI]) λi h1 a=>?_;rw[List.getElem_map];have:(upto left.length)[i]'(by rw[pI];exact a)=(i:Int):=by simp[upto]
 rw[this,jg (by omega) (by omega)];simp
theorem ann{left S:List Int}{k:Int}(k0:0<=k)(h:k<left.length)(hS:∀p∈S,k<p) :
  (k<(mP left S).length/\gt (mP left S) k=gt left k)/\tC (mP left S) k=mP left (k::S):=by
 obtain⟨n,rfl⟩:∃n:Nat,k=n:=⟨k.toNat,by omega⟩;have b:n<left.length:=by omega
 obtain⟨R,h1,c⟩:=anm b hS;have hl:(left.take n).length=n:=by rw[aK];omega
 rw[h1,c];have a:n<(left.take n++gt left n::R).length:=by simp;omega
 refine⟨⟨by omega,?_⟩,?_⟩
 .rw[jg (by omega) (by omega)];simp only[bt];rw[List.getElem_append_right (by omega)];simp[hl]
 .unfold tC;simp only[bt];rw[aV (by omega),af (by omega),show n+1=(left.take n).length+1 by omega,fm];simp
end Go.Proofs.YtmehofoficaelaaGreatDoor
namespace Go.Proofs.YtmehofoficaelaaGreatDoor
open Go Go.AL Classical
set_option maxRecDepth 10000
set_option maxHeartbeats 16000000
attribute [-simp] uL
theorem aec{H0 H:U}{q rv:Nat}{left gW:List Int}{ld:D}(h:LS H0 H q rv .ready left gW ld){ls:List Int}(M:∀k∈ls,0<=k/\k<left.length)(N:ls.Pairwise (· < ·))(X:ls.length<=100000)
  (W:gW.length+ls.length<=100000) (Q:left.length<=100000) {n:Nat} {x:D} (I:H0[n]? = some (.row 37 0 [x])) (o:4<n/\n≠rv/\n≠q)
  (G:x=dN 1 f1 ls\/∃v g,x = .fY v g 1 0 ls.length/\H0[v]? = some (.row 3 g (cl f1 ls))/\4<v/\v≠rv/\v≠q) :
  Wf T 124 [.iT rv,.ptr n 0 0] H (λ_ H'=>∃b,LS H0 H' q rv .ready (mP left ls) (gW++ls.reverse.map λk=>gt left k) b/\H.length<=H'.length):=by
 have z:∀Hc,mX .slice x Hc=some (.i ls.length):=λHc=>by
  rcases G with rfl|⟨v,g,rfl,_⟩
  .cases ls with
   | nil=>rfl
   | cons a r=>simp[dN]
  .simp
 have t:∀S:List Int,(mP left S).length<=left.length:=λS=>by unfold mP;rw[List.length_map];have:=List.length_filter_le (λp => !S.contains p) (upto left.length);rwa [pI]at this
 have d:=h.kp n _ I (.inl o.1) o.2.1 o.2.2;refine Yg JR ?_;simp[JR,z,d];(with_reducible repeat' first|refine Xk ?_<;>try simp[z,d]|refine Xs ?_ ?_<;>intro h<;>(try intro u)<;>(try simp[h,z,d])<;>try omega|refine Xg ?_|omega);refine gj.e ((H,(ls.length:Int)-1,ld):U×Int×D) (λy=>[(0,.iT rv),(1,.ptr n 0 0),(3,.i y.2.1)]) (λy=>y.1) (λy=>(-1<=y.2.1/\y.2.1<ls.length)/\H.length<=y.1.length/\LS H0 y.1 q rv .ready (mP left (ls.drop (y.2.1+1).toNat)) (gW++(ls.drop (y.2.1+1).toNat).reverse.map λk=>gt left k) y.2.2) (λy=>(y.2.1+1).toNat) ?_ ?_
 .refine pE ⟨Nat.le_refl _,?_⟩;dsimp only;rw[show((ls.length:Int)-1+1).toNat=ls.length by omega,List.drop_length,aaz];simpa using h
 rintro⟨Hc,i,A⟩ ⟨⟨i0,O⟩,L,f⟩;dsimp only at i0 O L f ⊢;have d:=f.kp n _ I (.inl o.1) o.2.1 o.2.2
 by_cases hi:0<=i
 .obtain⟨m,rfl⟩:∃m:Nat,i=m:=⟨i.toNat,by omega⟩;have s:m<ls.length:=by omega
  have e:ls.drop m=gt ls m::ls.drop (m+1):=by rw[bK s,jg (by omega) (by omega)];rfl
  rw[show((m:Int)+1).toNat=m+1 by omega]at f
  have l:(cl f1 ls)[m]? = some (.i (gt ls (m:Int))):=by rw[zt,au,List.getElem?_eq_getElem s,jg (by omega) (by omega)];rfl
  obtain⟨k,w⟩:∃k,gt ls (m:Int)=k:=⟨_,rfl⟩;rw[w]at e l;have E:∀h,(cl f1 ls)[m]'h = .i k:=λh=>by rw[List.getElem?_eq_getElem h]at l;exact bZ l
  obtain⟨S,hS⟩:∃S,ls.drop (m+1)=S:=⟨_,rfl⟩;rw[hS]at e f;have P:(k::S).Pairwise (· < ·):=by rw[<-e];exact N.drop
  have C:=(aS.1 P).1;have B:k∈ls:=bw (i:=m) (by rw[e];simp)
  have V:S.length+1<=ls.length:=by have:=congrArg List.length e;rw[aR,aJ]at this;omega
  obtain⟨k0,k1⟩:=M k B;obtain⟨⟨q1,q2⟩,q3⟩:=ann k0 k1 C
  have J:∀(env:Env) (K:St->Prop),(∀H' b,LS H0 H' q rv .ready (mP left (ls.drop m)) ((gW++S.reverse.map λk=>gt left k) ++ [gt left k]) b->Hc.length<=H'.length->K { env:=put env (some 17) (.b true),H:=H' }) ->
    na T rv [.i (m:Int),.i k] (some 17) { env:=env,H:=Hc } K .mk:=λenv K R=>aoX f (by simp;omega) (by have:=t S;omega) k0 q1 λH' b c j=>by
   rw[q2,q3,<-e]at c;exact R H' b c j
  rcases G with rfl|⟨v,g,rfl,hv,B3,hv5,hv6⟩
  .simp[d];(with_reducible repeat' first|refine Xk ?_<;>try simp[w]|refine Xs ?_ ?_<;>intro h<;>(try intro u)<;>(try simp[h,w])<;>try omega|refine Xg ?_|omega);simp[w];refine J _ _ λH' b c j=>?_;simp;(with_reducible repeat' first|refine Xk ?_<;>try simp|refine Xs ?_ ?_<;>intro h<;>(try intro u)<;>(try simp[h])<;>try omega|refine Xg ?_|omega);refine LJ.i (H',(m:Int)-1,b) (by simp) rfl rfl rfl ⟨by dsimp only;omega,iy,by dsimp only;omega,?_⟩;dsimp only;rw[show((m:Int)-1+1).toNat=m by omega];rw[e]at c ⊢;simpa using c
  .have F:=f.kp v _ hv (.inl B3) hv5 hv6;simp[d,F,l,E,s];(with_reducible repeat' first|refine Xk ?_<;>try simp[d,F,l,E,s]|refine Xs ?_ ?_<;>intro h<;>(try intro u)<;>(try simp[h,d,F,l,E,s])<;>try omega|refine Xg ?_|omega);refine J _ _ λH' b c j=>?_;simp;(with_reducible repeat' first|refine Xk ?_<;>try simp|refine Xs ?_ ?_<;>intro h<;>(try intro u)<;>(try simp[h])<;>try omega|refine Xg ?_|omega);refine LJ.i (H',(m:Int)-1,b) (by simp) rfl rfl rfl ⟨by dsimp only;omega,iy,by dsimp only;omega,?_⟩;dsimp only;rw[show((m:Int)-1+1).toNat=m by omega];rw[e]at c ⊢;simpa using c
 .simp[hi];(with_reducible repeat' first|refine Xk ?_<;>try simp[hi]|refine Xs ?_ ?_<;>intro h<;>(try intro u)<;>(try simp[h,hi])<;>try omega|refine Xg ?_|omega);rw[show(i+1).toNat=0 by omega,eU]at f;exact⟨⟨A,by simpa using f⟩,L⟩
end Go.Proofs.YtmehofoficaelaaGreatDoor
namespace Go.Proofs.YtmehofoficaelaaGreatDoor
open Go Go.AL Classical
theorem abW{cl:List gK}{n:Nat}(h:¬lj cl n<0):mM (sd cl (lj cl n))=true/\0<=lj cl n/\lj cl n<n:=by
 rcases FR cl n with⟨e,_⟩|⟨h1,a,_⟩
 .omega
 .exact⟨a,h1⟩
theorem agO{A:mg}{n:Nat}{ad:gK->Bool}{cl:List gK}{a:Int}{ls:List Int}(h:nh A n ad cl = .v a ls):(∃q,ls=idx q cl)/\ls≠[]/\-1<=a:=by
 unfold nh at h;split at h
 .rename_i o;cases h;exact⟨⟨_,rfl⟩,o,by omega⟩
 split at h
 .cases h
 split at h
 .rename_i i hi;cases h;have h1:=List.find?_some hi;have p:=fe hi;rw[jc]at p;exact⟨⟨_,rfl⟩,by simpa using h1,by omega⟩
 .rename_i f;split at h
  .cases h
  .rename_i g;cases h;obtain⟨m,h0,h1⟩:=abW g
   have l:∀r∈sd cl (lj cl n),lC r=true:=λr k=>by
    obtain⟨c,b,d,rfl⟩:=sK.1 k;have:=dm.1 f (lj cl n) (jc.2 ⟨h0,h1⟩);simp only[decide_eq_true_eq,Classical.not_not]at this
    cases e:lC (kI c (lj cl n))with
    | true=>rfl
    | false=>exact absurd this (yA.2 ⟨c,b,by simp[d,e]⟩)
   obtain⟨c,b,j⟩:=abv (A:=A) l m;exact⟨⟨_,rfl⟩,yA.2 ⟨c,b,j⟩,by omega⟩
theorem agD{q:gK->Bool}{cl:List gK}:∀k∈idx q cl,0<=k/\k<cl.length:=λk a=>(Ce.1 a).1
theorem TU(n:Nat):(upto n).Pairwise (· < ·):=by unfold upto;rw[eZ];exact List.pairwise_lt_range.imp λh=>by omega
theorem agE{q:gK->Bool}{cl:List gK}:(idx q cl).Pairwise (· < ·):=(TU _).filter _
structure LB(g:gi)(l:List Pos)(nx:List (List Int))(L:List Cw)(H:U)(left gW:List Int)(ld dv:D):Prop where
 h0:H[0]? = some (.row 43 0 g.cells)
 ct:∃old,H[1]? = some (.row 168 0 (ko g l nx dv old))
 nq:H[2]? = some (.row 37 0 [ld])
 vw:(gW = []/\ld = .gg)\/(gW≠[]/\∃v gn,4<v/\ld = .fY v gn 1 0 gW.length/\H[v]? = some (.row 3 gn (cl f1 gW)))
 arr:∃zs,gF zs=true/\H[3]? = some (.row 3 0 (cl f1 left++zs))
 nu:H[4]? = some (.row 37 0 [.fY 3 0 1 0 left.length])
 ok:jj H.length H
 cv:CV H 1 (left.map λk=>gt L k) dv
theorem LB.agR{g:gi}{l:List Pos}{nx:List (List Int)}{L:List Cw}{H H':U}{left gW:List Int}{ld dv:D}{cm:List gK}{J:Jd}{d:D}(h:LB g l nx L H left gW ld dv)(a:JP g l nx dv cm H H' 1 J d) :
  LB g l nx L H' left gW ld dv:=by
 obtain⟨sr,f,_⟩:=a.ct;refine⟨a.kp _ _ h.h0 (by omega),⟨_,f⟩,a.kp _ _ h.nq (by omega),?_,?_,a.kp _ _ h.nu (by omega),a.ok,?_⟩
 .rcases h.vw with h1|⟨h1,v,e,c,b,j⟩
  .exact .inl h1
  .exact .inr ⟨h1,v,e,c,b,a.kp _ _ j (by omega)⟩
 .obtain⟨zs,i,h1⟩:=h.arr;exact⟨zs,i,a.kp _ _ h1 (by omega)⟩
 .rcases h.cv with h1|h1|⟨v,e,h1,c,b⟩
  .exact .inl h1
  .exact .inr (.inl h1)
  .exact .inr (.inr ⟨v,e,h1,c,a.kp _ _ b h1⟩)
theorem LB.toLS{g:gi}{l:List Pos}{nx:List (List Int)}{L:List Cw}{H:U}{left gW:List Int}{ld dv:D}(h:LB g l nx L H left gW ld dv){R:U}{j:Nat}(k:R[j]? = some (.ib 1280 eS .ready))(m:∀o∈R,ni (H.length+R.length) o=true) :
  ∃q,(q=2\/∃a,ld = .fY q a 1 0 gW.length/\4<q)/\q<H.length/\LS (H++R) (H++R) q (H.length+j) .ready left gW ld:=by
 have n:=jr h.nu
 have gf:jj (H++R).length (H++R):=by rw[ak];exact uk (xq (by omega) h.ok) m
 have c:(H++R)[H.length+j]? = some (.ib 1280 eS .ready):=by rw[ai (by omega),Nat.add_sub_cancel_left];exact k
 obtain⟨zs,d,h1⟩:=h.arr;rcases h.vw with b|⟨b,v,a,f,e,i⟩
 .exact⟨2,.inl rfl,by omega,iv h.nq,.inl b,⟨zs,d,iv h1⟩,iv h.nu,gf,by omega,c,λw o h1 _ _ _=>h1,Nat.le_refl _⟩
 .exact⟨v,.inr ⟨a,e,f⟩,jr i,iv h.nq,.inr ⟨b,v,a,⟨f,.inl rfl⟩,e,iv i⟩,⟨zs,d,iv h1⟩,iv h.nu,gf,by omega,c,λw o h1 _ _ _=>h1,Nat.le_refl _⟩
end Go.Proofs.YtmehofoficaelaaGreatDoor
namespace Go.AL
open Go
section
variable{T:iB}{live:List Nat}{a:IR}{s:St}{K:iY}{α:Type}
theorem gj.mi(keys:List Nat)(j:(keys.all λk=>live.contains k)=true)(E:α->Env)(f:α->U)(M:α->List Nat)(P:α->Prop)(d:α->Nat)(c:α)
  (h0:P c) (t:forget keys s.env=E c) (p:s.H=f c) (l:s.marks=M c)
  (h:∀x,P x->XC T a { env:=E x,H:=f x,marks:=M x,iD:=s.iD } (wi s.H.length live keys (λe H m r=>∃b,e=E b/\H=f b/\m=M b/\r=s.iD/\d b<d x/\P b) K)):gj T live a s K .mk:=by
 refine Wc.loop (λm g=>∃x,P x/\m=d x/\({ g with env:=forget keys g.env }:St) = { env:=E x,H:=f x,marks:=M x,iD:=s.iD }) (d c) ⟨c,h0,rfl,?_⟩ ?_
 .dsimp only;rw[WN j,t];rw[<-p,<-l]
 .rintro m g ⟨x,hP,rfl,n⟩;refine Ev.Gy keys ?_;rw[n];refine(XC.wc (h x hP)).mono λo i=>?_
  cases o with
  | norm w=>
   obtain⟨b,u,A,z,y,v,h1⟩:=i;refine⟨d b,v,b,h1,rfl,?_⟩;rw[u];generalize cut s.H.length live w=q at *;cases q;simp_all
  | exit=>exact i
  | ret=>exact i
def LM(E:α->Env)(b:α->U)(M:α->List Nat)(Q:α->Prop)(_:Tag (E,b,M,Q))(e:Env)(H:U)(m:List Nat)(r:Bool):Prop:=
 ∃a,e=E a/\H=b a/\m=M a/\r=false/\Q a
theorem LM.i{E:α->Env}{b:α->U}{M:α->List Nat}{Q:α->Prop}{t:Tag (E,b,M,Q)}{e:Env}{H:U}{m:List Nat}{r:Bool}(a:α)(h1:e=E a)(g:H=b a)(f:m=M a)(d:r=false)(c:Q a):LM E b M Q t e H m r:=⟨a,h1,g,f,d,c⟩
theorem gj.m(b:α)(E:α->Env)(c:α->U)(M:α->List Nat)(P:α->Prop)(d:α->Nat)
  (h:∀x,P x->XC T a { env:=E x,H:=c x,marks:=M x } (wi s.H.length live ((E b).map (·.1)) (LM E c M (λe=>d e<d x/\P e) .mk) K))
  (h0:P b) (l:forget ((E b).map (·.1)) s.env=E b) (j:s.H=c b) (i:s.marks=M b) (g:s.iD=false) (f:(((E b).map (·.1)).all λk=>live.contains k)=true):gj T live a s K .mk:=
 gj.mi _ f E c M P d b h0 l j i (by rw[g];exact h)
