/- 42 -/
import Derived.Test.YtmehofoficaelaaGreatDoorP41
set_option linter.all false
open And renaming intro→aE
open Option renaming some→bf
open List renaming getElem?_eq_getElem→cc,mem_singleton→cp,length_map→di,map_append→dx,all_eq_true→ej,replicate→ep,mem_of_getElem?→ez,filter_cons→eB,mem_reverse→eK,range'→eL,length→List.l
open Bool renaming true→eh,false→ek
open Nat renaming le_refl→er
open Int renaming toNat→Int.n
namespace Go.Proofs.YtmehofoficaelaaGreatDoor
open Go Go.AL Classical
set_option maxRecDepth 10000
set_option maxHeartbeats 16000000
attribute [-simp] pQ
def sO(cm:List iF)(m j k:Int)(V:List gT)(seen:List Nat):List gT:=if seen≠[]/\(iH cm j).l=1/\(pd (sd cm j)).2<m then pt (pt V k (2,0)) k (pd (sd cm j))else pt V k (2,0)
@[simp] theorem at6(cm:List iF)(m j k:Int)(V:List gT):sO cm m j k V []=pt V k (2,0):=if_neg λh=>h.1 rfl
section
variable{cm:List iF}{m j k:Int}{V:List gT}{seen:List Nat}
theorem afb(k0:0<=k)(k1:k<V.l):(sO cm m j k V seen).l=V.l:=by
 unfold sO;have h:=jy (l:=V) (v:=((2,0):gT)) k0 k1;split
 .rw[jy k0 U,h]
 .exact h
theorem afc(k0:0<=k)(k1:k<V.l){i:Int}(i0:0<=i)(h:i≠k):gt (sO cm m j k V seen) i=gt V i:=by
 unfold sO;have hl:=jy (l:=V) (v:=((2,0):gT)) k0 k1;split
 .rw[mY k0 U i0,if_neg h,mY k0 k1 i0,if_neg h]
 .rw[mY k0 k1 i0,if_neg h]
theorem at5(k0:0<=k)(k1:k<V.l)(hs:sd cm j≠[])(d:∀t,t<(iH cm j).l->t∈seen):gt (sO cm m j k V seen) k=zY cm m j:=by
 unfold sO zY;have hl:=jy (l:=V) (v:=((2,0):gT)) k0 k1;have f:(iH cm j).l≠0:=λh=>hs (Qy.1 h)
 have b:seen≠[]:=λh=>by have:=d 0 U;rw[h]at this;cases this
 have a:(iH cm j).l=1↔om (sd cm j)=false:=by
  have:=JI (cl:=cm) (i:=j)
  cases e:om (sd cm j)with
  | true=>
   rw[e]at this;constructor
   .grind
   .grind
  | false=>
   rw[e]at this;constructor
   .intro _;rfl
   .grind
 by_cases c:om (sd cm j)=ek/\(pd (sd cm j)).2<m
 .rw[if_pos c,if_pos ⟨b,a.2 c.1,c.2⟩,mY k0 U k0,if_pos rfl]
 .rw[if_neg c,if_neg λh=>c ⟨a.1 h.2.1,h.2.2⟩,mY k0 k1 k0,if_pos rfl]
end
section
variable{H:gQ}{ck sr n:Nat}{M:Nat->lr}{ow:Nat->Nat×Nat×Nat}{P:Nat->Nat}{Q:Nat->Nat->Nat}
theorem aiq(g:gY)(hg:iE g)(l:List Pos)(hc:qq g l){dcl:D}(s7:n=l.l)(E:nI H ck sr n M ow P Q)(gW:jZ H.l H)(S:H[ck]? = bf (.row 168 0 (lB g l (iq g l) dcl (.gR sr 0 1 0 n))))
  {cm:List iF} (h8:cm.l<=100000) {i:Int} (i0:0<=i) (C:i<n) (hM:∀j,j<n->M j=iH cm j)
  (hp:∀j:Int,0<=j->j<l.l->∀r∈sd cm j,mJ r=eh) (hb:∀j:Int,0<=j->j<l.l->∀r∈sd cm j,r.2<=4000) (hs:∀j:Int,0<=j->j<l.l->sd cm j≠[]) :
  Wf T 123 [.ptr ck 0 0,.i i] H (λd H'=>d=dN 1 f1 (lq (tu (jR g l (iq g l)) cm i) cm cm.l)/\H'=H):=by
 subst s7;have g4:=hc.len;have uA:=hc.ok _ (ij i0 C);have xX:(iq g l).l=l.l:=by simp[iq]
 have iG:=(wI hc (i:=i) i0 C).2;have iU:=(wI hc (i:=i) i0 C).1
 have sm:(gt (iq g l) i).l<=4000000000:=by rw[iU,di];have:=Hm hg uA;omega
 have G0:(stat g (gt l i)).2=ek->0<(gt (iq g l) i).l:=λh=>by
  rw[iU,di];have:kd g (gt l i)≠[]:=λe=>by unfold stat at h;simp[e]at h
  exact ay.2 this
 have TE:=f54 g hg (gt l i) uA;obtain⟨m,hm⟩:∃m,nD (sd cm i)=m:=⟨_,rfl⟩
 have x4:(stat g (gt l i)).2=eh->∀c∈cm,(kN c i&&decide (lW c i≠((stat g (gt l i)).1,0)))=tu (jR g l (iq g l)) cm i c:=λh c _=>by unfold tu;rw[if_pos (show(jR g l (iq g l)).ov i=eh from h)];rfl
 have B:(stat g (gt l i)).2=ek->(pe ((gt (iq g l) i).map (zY cm m))).1≠2->∀c∈cm,(kN c i&&decide (lW c i≠pe ((gt (iq g l) i).map (zY cm m))))=tu (jR g l (iq g l)) cm i c:=λh f c _=>by unfold tu;rw[if_neg (by rw[show(jR g l (iq g l)).ov i=ek from h];simp),hm,adp,show gt (jR g l (iq g l)).nx i=gt (iq g l) i from rfl,if_pos f]
 have A:(stat g (gt l i)).2=ek->(pe ((gt (iq g l) i).map (zY cm m))).1=2->∀c∈cm,(kN c i&&decide ((lW c i).1≠2/\(lW c i).2=m))=tu (jR g l (iq g l)) cm i c:=λh f c _=>by unfold tu;rw[if_neg (by rw[show(jR g l (iq g l)).ov i=ek from h];simp),hm,adp,show gt (jR g l (iq g l)).nx i=gt (iq g l) i from rfl,if_neg (by rw[f];simp)]
 obtain⟨W,hW⟩:∃W,lq (tu (jR g l (iq g l)) cm i) cm cm.l=W:=⟨_,rfl⟩;have QN:∀p:iF->Bool,(∀c∈cm,p c=tu (jR g l (iq g l)) cm i c)->lq p cm cm.l=W:=λp h=>by rw[<-hW];exact acm U h
 rw[hW];obtain⟨nx,mZ⟩:∃nx,iq g l=nx:=⟨_,rfl⟩;rw[mZ]at S xX iG sm G0 B A QN x4;obtain⟨st,ig⟩:∃st,stat g (gt l i)=st:=⟨_,rfl⟩;rw[ig]at TE G0 x4 B A;obtain⟨o,ov⟩:=st;dsimp only at TE G0 x4 B A;have tJ:(lB g l nx dcl (.gR sr 0 1 0 l.l))[12]? = bf (.gR sr 0 1 0 l.l):=by unfold lB;simp
 have v:∀R:gQ,(H++R)[ck]? = bf (.row 168 0 [.i g.size,.sl 1 (g.next.map fI),dI g.jC,.sl 3 (g.kinds.map Kind.cells),.i g.iw,.b g.me,dN 4 Clause.cells g.clauses,.i g.blocked,.i g.oV,iZ l,.sl 1 (nx.map fN),dcl,.gR sr 0 1 0 l.l]):=λR=>by rw[jl S];unfold lB;simp
 have e3:=kr S;have hA:pj H.l (.row 157 0 [.ptr ck 0 0])=true:=by simp[e3]
 have rF:∀(G:gQ),jZ H.l G->jZ (H++(Ob.row 157 0 [.ptr ck 0 0]::Ob.row 3 0 [.i i]::G)).l (H++(Ob.row 157 0 [.ptr ck 0 0]::Ob.row 3 0 [.i i]::G)):=λG hG=>Lp gW rfl λx E=>by
  rcases ak.1 E with rfl|E
  .exact hA
  .rcases ak.1 E with rfl|E
   .rfl
   .exact hG x E
 have Gm:∀j:Int,0<=j->j<l.l->M j.n=iH cm j:=λj j0 j1=>kM;refine Yg M0 ?_;simp[M0,v];refine jM v ?_;refine Yt (TE) ?_;simp[v];cases ov
 .have G0:=G0 rfl;have B:=B rfl;have A:=A rfl;obtain⟨x,Eg⟩:∃x,gt nx i=x:=⟨_,rfl⟩;rw[Eg]at iG sm G0 B A;simp;refine gU ?_;refine ik.w lO ?_;refine ik.kZ rfl rfl (TX (H:=H ++ [.row 157 0 [.ptr ck 0 0],.row 3 0 [.i i]]) (E.app _) (rF [] λ_ h=>by cases h) (jl S) tJ i0 C (Gm i i0 C) (hp i i0 C)) ?_;rintro _ H' ⟨rfl,rfl⟩;rw[hm];simp[v,Eg,sC];refine kf v Eg sC ?_;have hz:(ep x.l [D.i 0,D.i 0]).flatten=AL.cl fS (ep x.l (0,0)):=pK;refine gZ.s (by simp[hz];rfl) ?_;refine gZ.e ((0,ep x.l (0,0),[]):Int×List gT×gQ) (λy=>[(2,.ptr H.l 0 0),(3,.ptr (H.l+1) 0 0),(5,.fn (.func 186) [] [.ptr H.l 0 0,.ptr (H.l+1) 0 0]),(8,.ptr (H.l+2) 0 0),(9,.gR (H.l+3) 0 2 0 x.l),(53,dN 1 f1 x),(54,.i x.l),(55,.i y.1)]) (λy=>H++(.row 157 0 [.ptr ck 0 0] :: .row 3 0 [.i i] :: .row 3 0 [.i m] :: .row 86 0 (AL.cl fS y.2.1)::y.2.2)) (λy=>(0<=y.1/\y.1<=x.l)/\y.2.1.l=x.l/\(∀j:Int,0<=j->j<y.1->gt y.2.1 j=zY cm m (gt x j))/\(∀j:Int,y.1<=j->j<x.l->gt y.2.1 j=(0,0))/\jZ H.l y.2.2) (λy=>(x.l-y.1).n) ?_ ?_
  .refine⟨gP,gP,λj j0 j1=>absurd j1 iv,λj j0 j1=>?_,λ_ h=>by cases h⟩;rw[jU j0 (by simpa using j1)];simp
  rintro⟨k,V,R⟩ ⟨⟨k0,k1⟩,hV,BO,UH,hR⟩;dsimp only at k0 k1 hV BO UH hR ⊢
  by_cases hk:k<x.l
  .obtain⟨j,hj⟩:∃j,gt x k=j:=⟨_,rfl⟩;have a:=iG _ (ij k0 hk);rw[hj]at a;have GO:=agD k0 (by omega:k<V.l) 2;rw[UH k U hk]at GO;obtain⟨p1,_⟩:=E.mp j.n U;rw[Gm j a.1 a.2]at p1;have N:∀R:gQ,(H++R)[sr]? = bf (.row 170 0 ((List.range l.l).map λj=>D.im (P j))):=λR=>jl E.row;obtain⟨p,L⟩:∃p,P j.n=p:=⟨_,rfl⟩;obtain⟨q,D'⟩:∃q,Q j.n=q:=⟨_,rfl⟩;rw[L,D']at p1;have I:∀R:gQ,(H++R)[p]? = bf (.map KS (jN q 0 (iH cm j))):=λR=>jl p1;have kc:=kr p1;simp[hk,hj,v,GO,N,L,I,a.1,a.2];refine kf (aE hk (aE hj v)) (aE GO (aE N L)) (aE I (aE a.1 a.2)) ?_;refine gZ.s (by simp[GO];rfl) ?_;refine gZ.e (([],[]):List Nat×gQ) (λz=>[(2,.ptr H.l 0 0),(3,.ptr (H.l+1) 0 0),(5,.fn (.func 186) [] [.ptr H.l 0 0,.ptr (H.l+1) 0 0]),(8,.ptr (H.l+2) 0 0),(9,.gR (H.l+3) 0 2 0 x.l),(10,.i k),(11,.i j),(53,dN 1 f1 x),(54,.i x.l),(55,.i k),(71,.ptr (H.l+(R.l+4)) 0 0)]) (λz=>H++(.row 157 0 [.ptr ck 0 0] :: .row 3 0 [.i i] :: .row 3 0 [.i m] :: .row 86 0 (AL.cl fS (sO cm m j k V z.1))::(R ++ .jO (.im p) (iH cm j).l z.1::z.2))) (λz=>z.1.Nodup/\(∀t∈z.1,t<(iH cm j).l)/\jZ H.l z.2) (λz=>(iH cm j).l-z.1.l) ?_ ?_
   .simp_all
   rintro⟨seen,Z⟩ ⟨lJ,iA,hZ⟩;dsimp only at lJ iA hZ ⊢;simp;refine ub.at (m:=p) (since:=(iH cm j).l) (seen:=seen) (kk:=KS) (es:=jN q 0 (iH cm j)) gP (by simp[I]) gP (λjm=>?_) λt kv dv he hi=>?_
   .have jm:∀t,t<(iH cm j).l->t∈seen:=by simpa using jm
    simp;refine gU ?_;refine LJ.i (k+1,sO cm m j k V seen,R ++ .jO (.im p) (iH cm j).l seen::Z) gP gP rfl rfl ?_;refine⟨iv,jc,by rw[afb k0 U];exact hV,λi' h0 h1=>?_,λi' h0 h1=>?_,wM hR λo b=>?_⟩
    .dsimp only at h1 ⊢
     by_cases e:i'=k
     .subst e;rw[hj];exact at5 k0 U (hs j a.1 a.2) jm
     .rw[afc k0 U h0 e];exact BO i' h0 U
    .dsimp only at h0 ⊢;rw[afc k0 U U U];exact UH i' U h1
    .rcases ak.1 b with rfl|b
     .show decide (p<H.l)=eh;exact decide_eq_true kc
     .exact hZ o b
   .rw[xK]at he;obtain⟨y,wz,KN⟩:=ar.1 he;cases KN;have O:=LV lJ iA (ae.1 wz).1 hi;have X:(jN q 0 (iH cm j))[t]? = bf (mH y.1,oI (q t) y.2):=by rw[xK,wz];simp
    have e:(H++(Ob.row 157 0 [.ptr ck 0 0]::Ob.row 3 0 [.i i]::Ob.row 3 0 [.i m]::Ob.row 86 0 (AL.cl fS (sO cm m j k V seen))::(R++Ob.jO (.im p) (iH cm j).l seen::Z))).set (H.l+(R.l+4)) (.jO (.im p) (iH cm j).l (seen ++ [t]))=H++(Ob.row 157 0 [.ptr ck 0 0]::Ob.row 3 0 [.i i]::Ob.row 3 0 [.i m]::Ob.row 86 0 (AL.cl fS (sO cm m j k V seen))::(R++Ob.jO (.im p) (iH cm j).l (seen ++ [t])::Z)):=gP;rw[e]
    have xh:(iH cm j).l-(seen ++ [t]).l<(iH cm j).l-seen.l:=by have:=O.2.2;rw[aq,aT]at this ⊢;omega
    have ju:=afb (cm:=cm) (m:=m) (j:=j) (seen:=seen) k0 (by omega:k<V.l)
    by_cases h1:(iH cm j).l=1
    .have VE:t=0:=by have:=(ae.1 wz).1;omega
     have wy:seen = []:=a7.2 λu hu=>by have:=iA u hu;rw[(U:u=t)]at hu;exact hi hu
     have hy:y.1=pd (sd cm j):=abx (by
      obtain⟨z,hz⟩:=gE.1 h1;rw[hz,VE]at wz;cases wz
      exact hz)
     subst wy;obtain⟨⟨J,F⟩,ls⟩:=y;dsimp only at hy X
     by_cases f:F<m
     .have hv:sO cm m j k V ([] ++ [t])=pt (pt V k (2,0)) k (J,F):=by unfold sO;rw[if_pos ⟨gP,h1,by rw[<-hy];exact f⟩,hy]
      have Kw:=pN (l:=pt V k (2,0)) (n:=k) J F;simp[I,X,v,N,L,a.1,a.2,h1,f,Kw];refine pM (aE I (aE X v)) (aE N (aE L a.1)) (aE a.2 (aE h1 f)) Kw ?_;rw[at6]at ju;refine⟨by rw[ju];omega,?_⟩;refine LJ.i ([] ++ [t],Z ++ [.row 86 0 [.i J,.i F]]) gP (by rw[hv];simp[h1]) rfl rfl ?_;exact⟨xh,O.1,O.2.1,wM hZ λo b=>by rw[cp.1 b];rfl⟩
     .have hv:sO cm m j k V ([] ++ [t])=pt V k (2,0):=by unfold sO;rw[if_neg λh=>f (by have:=h.2.2;rw[<-hy]at this;exact this)]
      simp[I,X,v,N,L,a.1,a.2,h1,f];refine kf (aE I (aE X v)) (aE N (aE L a.1)) (aE a.2 (aE h1 f)) ?_;refine LJ.i ([] ++ [t],Z ++ [.row 86 0 [.i J,.i F]]) gP (by rw[hv];simp[h1]) rfl rfl ?_;exact⟨xh,O.1,O.2.1,wM hZ λo b=>by rw[cp.1 b];rfl⟩
    .have hv:sO cm m j k V (seen ++ [t])=sO cm m j k V seen:=by unfold sO;rw[if_neg λh=>h1 h.2.1,if_neg λh=>h1 h.2.1]
     simp[I,X,v,N,L,a.1,a.2,h1];refine pM (aE I X) (aE v N) (aE L a.1) (aE a.2 h1) ?_;refine LJ.i (seen ++ [t],Z ++ [.row 86 0 [.i y.1.1,.i y.1.2]]) gP (by simp[hv]) rfl rfl ?_;exact⟨xh,O.1,O.2.1,wM hZ λo b=>by rw[cp.1 b];rfl⟩
  have xU:k=x.l:=U
  have BP:V=x.map (zY cm m):=by refine bH (by rw[di];exact hV) λj j0 j1=>?_;have h:=BO j U U;rw[jU U U,jU (l:=x) U U]at h;rw[br];exact h
  rw[<-BP]at B A
  have JW:∀r∈V,0<=r.2/\r.2<=4000:=λr hr=>by
   rw[BP]at hr;obtain⟨j,hj,rfl⟩:=aj.1 hr;have a:=iG j hj;unfold zY;split
   .have hf:=F' (hs j a.1 a.2);have h1:=hp j a.1 a.2 _ hf;have f:=hb j a.1 a.2 _ hf;refine⟨?_,f⟩;unfold mJ at h1;simp only[decide_eq_true_eq]at h1;rcases h1 with e|e
    .rw[e];decide
    .exact e.2
   .exact⟨jo,jo⟩
  have Y:=ait V U U JW;obtain⟨r,hr⟩:∃r,pe V=r:=⟨_,rfl⟩;rw[hr]at Y B A;obtain⟨J,F⟩:=r;dsimp only at Y B A;simp[hk];refine gU ?_;refine Yr Y ?_ rfl rfl (by simp[hV]) (by simp[flat,w7]) gP
  have hG:jZ H.l (Ob.row 3 0 [.i m]::Ob.row 86 0 (AL.cl fS V)::(R ++ [Ob.row 86 0 [.i J,.i F]])):=λo b=>by
   rcases ak.1 b with rfl|b
   .rfl
   .rcases ak.1 b with rfl|b
    .exact Cs _
    .rcases ai.1 b with b|b
     .exact hR o b
     .rw[cp.1 b];rfl
  by_cases f:J=2
  .subst f;have A:=A rfl;simp;refine gU ?_;refine ik.w lO ?_;refine ik.kZ rfl rfl (TW (H:=H++(.row 157 0 [.ptr ck 0 0] :: .row 3 0 [.i i] :: .row 3 0 [.i m] :: .row 86 0 (AL.cl fS V)::(R ++ [.row 86 0 [.i 2,.i F]]))) (E.app _) (rF _ hG) (jl S) tJ h8 i0 C (Gm i i0 C) (w:=λr=>decide (r.1≠2/\r.2=m)) λr dst s K kh k'=>?_) ?_
   .have hb:=kh (H.l+2) (.row 3 0 [.i m]) gP;exact Yr (aiF r m) k' rfl rfl (by simp[hb])
   .rintro _ H' ⟨rfl,rfl⟩;rw[QN _ A];simp[yh gW]
  .have B:=B f;simp[f];refine jM f ?_;have I9:=aaL (H:=H++(.row 157 0 [.ptr ck 0 0] :: .row 3 0 [.i i] :: .row 3 0 [.i m] :: .row 86 0 (AL.cl fS V)::(R ++ [.row 86 0 [.i J,.i F]]))) (E.app _) (rF _ hG) (jl S) tJ h8 i0 C (Gm i i0 C) (t2:=H.l) (t3:=H.l+1) gP gP (J,F);rw[QN _ B]at I9;refine ik.w lO ?_;refine ik.kZ rfl rfl I9 ?_;rintro _ H' ⟨rfl,rfl⟩;simp[yh gW]
 .have x4:=x4 rfl;have I9:=aaL (H:=H ++ [.row 157 0 [.ptr ck 0 0],.row 3 0 [.i i]]) (E.app _) (rF [] λ_ h=>by cases h) (jl S) tJ h8 i0 C (Gm i i0 C) (t2:=H.l) (t3:=H.l+1) gP gP (o,0);rw[QN _ x4]at I9;simp;refine gU ?_;refine ik.w lO ?_;refine ik.kZ rfl rfl I9 ?_;rintro _ H' ⟨rfl,rfl⟩;simp[yh gW]
end
end Go.Proofs.YtmehofoficaelaaGreatDoor
namespace Go.Proofs.YtmehofoficaelaaGreatDoor
open Go Go.AL Classical
set_option maxRecDepth 10000
set_option maxHeartbeats 16000000
attribute [-simp] pQ
section
variable{H:gQ}{ck sr n:Nat}{M:Nat->lr}{ow:Nat->Nat×Nat×Nat}{P:Nat->Nat}{Q:Nat->Nat->Nat}
theorem ain{p:Nat}{kk:KK}{es:List (Value×D)}(a:H[p]? = bf (.map kk es)):Wf T 118 [.im p] H (λd H'=>d = .b (decide (es.l=0))/\H'=H):=by refine Yg MW ?_;simp[MW,a]
theorem aiD(g:nI H ck sr n M ow P Q)(o:n<=1000):Wf T 185 [.gR sr 0 1 0 n,.fn (.func 118) [] []] H (λd H'=>∃v:Int,d = .i v/\H'=H/\(0<=v↔∃j,j<n/\(M j).l=0)):=by
 have f:=g.row;refine Yg Nb ?_;simp[Nb];refine gZ.e (0:Int) (λy=>[(0,.gR sr 0 1 0 n),(1,.fn (.func 118) [] []),(7,.i n),(8,.i y)]) (λy=>H) (λy=>(0<=y/\y<=n)/\∀j,j<y.n->(M j).l≠0) (λy=>(n-y).n) ?_ ?_
 .grind
 rintro y ⟨⟨c,k⟩,i⟩;dsimp only at c k i ⊢
 by_cases b:y<n
 .obtain⟨l,_⟩:=g.mp y.n U;have a:y.n<n:=U;simp[b,f,a];refine kf b f a ?_;refine ik.kZ rfl rfl (ain (H:=H) l) ?_;rintro _ H' ⟨rfl,rfl⟩;rw[Dm]
  by_cases h0:(M y.n).l=0
  .rw[decide_eq_true h0];simp;refine gU ?_;exact⟨λ_=>⟨y.n,a,aA.1 h0⟩,λ_=>c⟩
  .rw[decide_eq_false h0];simp;refine gU ?_;refine LJ.i (y+1) gP rfl rfl rfl ⟨U,jc,λj m=>?_⟩
   by_cases e:j=y.n
   .grind
   .grind
 .simp[b];refine gU ?_;exactλj m h=>i j U (by rw[h];rfl)
theorem aim(a:nI H ck sr n M ow P Q)(c:n<=1000):Wf T 117 [.gR sr 0 1 0 n,.fn (.func 118) [] []] H (λd H'=>d = .b (decide (∃j,j<n/\(M j).l=0))/\H'=H):=by refine Yg MV ?_;simp[MV];refine ik.kZ rfl rfl (aiD a c) ?_;rintro _ H' ⟨v,rfl,rfl,b⟩;simp;simpa using b
theorem nI.asZ(h:nI H ck sr n M ow P Q){v:Nat}(e:ow v=(5,0,0))(o:Ob):nI (H.set v o) ck sr n M ow P Q:=by
 have key:∀(w:Nat) (x:Ob),H[w]? = bf x->ow w≠(5,0,0)->(H.set v o)[w]? = bf x:=λw x d f=>kM;refine⟨h.fc,h.fs,key _ _ h.row (by rw[h.fs];simp),λj b=>?_,λj b t x c=>?_⟩
 .obtain⟨h1,a⟩:=h.mp j b;exact⟨key _ _ h1 (by rw[a];simp),a⟩
 .obtain⟨h1,a⟩:=h.ls j b t x c;exact⟨key _ _ h1 (by rw[a];simp),a⟩
end
@[simp] theorem awZ(cl:List iF):mu cl 0 = -1:=rfl
theorem afZ(cl:List iF){y:Int}(a:0<=y):mu cl (y+1).n=IZ cl (mu cl y.n) y:=by rw[(U:(y+1).n=y.n+1)];unfold mu;rw[Ml,List.foldl_append,(U:((y.n:Nat):Int)=y)];rfl
def LiV(N:Nat)(H:gQ)(ls:List Int)(d:D):Prop:=d=dN 1 f1 ls\/(ls≠[]/\∃v g,d = .gR v g 1 0 ls.l/\H[v]? = bf (.row 3 g (cl f1 ls))/\N<=v)
def VD(N:Nat)(H:gQ)(d:D):Jd->Prop
 | .v a ls=>∃x,d = .tup [.agg [.i a,x],.i 0]/\LiV N H ls x
 | .none=>d = .tup [.agg [.i 0,.gV],.i 270]
 | .De=>d = .tup [.agg [.i 0,.gV],.i 180]
structure JP(g:gY)(l:List Pos)(nx:List (List Int))(dcl:D)(cm:List iF)(H H':gQ)(ck:Nat)(J:Jd)(d:D):Prop where
 vd:VD H.l H' d J
 ok:jZ H'.l H'
 kp:∀v o,H[v]? = bf o->v≠ck->H'[v]? = bf o
 ct:∃sr,H'[ck]? = bf (.row 168 0 (lB g l nx dcl (.gR sr 0 1 0 l.l)))/\(J = .none->∃ow P Q,nI H' ck sr l.l (λj:Nat=>iH cm (j:Int)) ow P Q/\∀v o,H[v]? = bf o->v≠ck->ow v=(5,0,0))
def aic(g:gY)(hg:iE g)(l:List Pos)(A:qq g l)(h0:0<l.l)(h9:l.l<=1000){H:gQ}{ck:Nat}{L:List Cw}{old dcl:D}(hd:CV H ck L dcl)(gW:jZ H.l H)
  (n9:H[ck]? = bf (.row 168 0 (lB g l (iq g l) dcl old))) (hL:∀x∈L,x.ok) (hb:∀x∈L,∀r∈x.c.es,r.2<=4000) (h8:L.l<=100000) :
  Wf T 64 [.ptr ck 0 0] H (λd H'=>JP g l (iq g l) dcl (cs L) H H' ck (o6 (jR g l (iq g l)) l.l (kq l.l) (cs L)) d):=by
 have BS:=w5 L;have JT:=@ak6 (jR g l (iq g l)) l.l (kq l.l) (cs L);have N:=@ak9 (jR g l (iq g l)) l.l (kq l.l) (cs L);have E:=@ala (jR g l (iq g l)) l.l (kq l.l) (cs L);have b:=@ak7 (jR g l (iq g l)) l.l (kq l.l) (cs L);obtain⟨J,hJ⟩:∃J,o6 (jR g l (iq g l)) l.l (kq l.l) (cs L)=J:=⟨_,rfl⟩;rw[hJ]at JT N E b ⊢;rw[BS]at JT N E b;have Ap:jZ (H ++ [Ob.row 89 0 [.i 0,.gV]]).l (H ++ [Ob.row 89 0 [.i 0,.gV]]):=Lp gW rfl λo ho=>by rw[cp.1 ho];rfl
 have h7:=kr n9;refine Yg MJ ?_;simp[MJ];refine ik.kZ rfl rfl (ail (H:=H ++ [.row 89 0 [.i 0,.gV]]) (hd.app _) Ap (jl n9) hL h8 h9 h0) ?_;rintro d H1 ⟨ow,P,Q,p⟩;obtain⟨m,h5⟩:=p.kp H.l (.row 89 0 [.i 0,.gV]) gP U;obtain⟨bad,DO⟩:∃bad,lq (λc => !kq l.l c) (cs L) L.l=bad:=⟨_,rfl⟩;rw[DO]at p JT N E b;have R:=p.ct
 have M:H1[ck]? = bf (.row 168 0 [.i g.size,.sl 1 (g.next.map fI),dI g.jC,.sl 3 (g.kinds.map Kind.cells),.i g.iw,.b g.me,dN 4 Clause.cells g.clauses,.i g.blocked,.i g.oV,iZ l,.sl 1 ((iq g l).map fN),dcl,.gR (H ++ [Ob.row 89 0 [.i 0,.gV]]).l 0 1 0 l.l]):=by rw[R];unfold lB;simp
 obtain⟨sr,c1⟩:∃sr,(H ++ [Ob.row 89 0 [.i 0,.gV]]).l=sr:=⟨_,rfl⟩;rw[c1]at p R M;have sG:∀v o,H[v]? = bf o->v≠ck->H1[v]? = bf o:=λv o G A=>(p.kp v o (jl G) A).1
 have X:∀(x:Ob),pj H1.l x=eh->jZ (H1.set H.l x).l (H1.set H.l x)/\(∀v o,H[v]? = bf o->v≠ck->(H1.set H.l x)[v]? = bf o)/\(H1.set H.l x)[ck]? = bf (.row 168 0 (lB g l (iq g l) dcl (.gR sr 0 1 0 l.l))):=λx c0=>by
  refine⟨by rw[av];exact rR p.ok c0,λv o G A=>?_,?_⟩
  .grind
  .grind
 rcases p.bd with⟨vX,rfl⟩|⟨sX,v,gn,rfl,sF,xO⟩
 .have DM:∀x∈L,kq l.l x.c=true:=λx C=>by
   have f:=DO;rw[vX,<-BS,ye]at f
   cases e:kq l.l x.c with
   | true=>rfl
   | false=>exact absurd f (Aw.2 ⟨x.c,aj.2 ⟨x,C,rfl⟩,by simp[e]⟩)
  have c7:hM (kq l.l) (cs L) L.l=λj:Nat=>iH (cs L) (j:Int):=funext λj=>by
   rw[<-BS]
   exact ajO (λc A=>by
    obtain⟨x,C,rfl⟩:=aj.1 A
    exact DM x C) j
  have B:=p.sg;rw[c7]at B;have e':=aim B h9;have tJ:(lB g l (iq g l) dcl (.gR sr 0 1 0 l.l))[12]? = bf (.gR sr 0 1 0 l.l):=by unfold lB;simp
  have UA:∀x∈L,x.full:=λx C=>⟨hL x C,λ_=>by
   have:=DM x C;unfold kq at this;rw[Bool.and_eq_true]at this
   exact(L8 this.1).2.2⟩
  have c3:∀j:Int,0<=j->j<l.l->∀r∈sd (cs L) j,r.2<=4000:=λj _ _ r hr=>by obtain⟨c,A,h1,rfl⟩:=uD.1 hr;obtain⟨x,C,rfl⟩:=aj.1 A;obtain⟨_,j0,j1⟩:=Cw.abn (UA x C) h1;exact hb x C _ (ij U j1)
  have N:=@N vX;have E:=@E vX;have b:=b vX;have W:∀j:Int,0<=j->iH (cs L) ((j.n:Nat):Int)=iH (cs L) j:=λj j0=>by rw[(U:((j.n:Nat):Int)=j)]
  have q:∀o,(H1.set H.l o)[H.l]? = bf o:=λo=>aN (kr m);simp[M];refine jM M ?_;refine ik.kZ rfl rfl e' ?_;rintro _ H' ⟨rfl,rfl⟩
  by_cases Y:∃j,j<l.l/\(iH (cs L) ((j:Nat):Int)).l=0
  .rw[decide_eq_true Y];obtain⟨j,hj,wh⟩:=Y;have V:=@N (j:Int) U U (Qy.1 wh);subst V;simp[m,q];refine ko m q ?_;obtain⟨f1,f2,f3⟩:=X (.row 89 0 [.i 0,.gV]) rfl;exact⟨rfl,f1,f2,sr,f3,λh=>by cases h⟩
  .rw[decide_eq_false Y];have hs:∀j:Int,0<=j->j<l.l->sd (cs L) j≠[]:=λj j0 j1 h=>Y ⟨j.n,U,by rw[W j j0];exact Qy.2 h⟩;have E:=@E hs;have b:=b hs;have Z:(cs L).l<=100000:=by rw[BS];exact h8
   clear Y JT N;simp[M];refine jM M ?_;refine gZ.e (0:Int) (λy=>[(0,.ptr ck 0 0),(2,.ptr H.l 0 0),(27,.i l.l),(28,.i y)]) (λy=>H') (λy=>(0<=y/\y<=l.l)/\∀j:Int,0<=j->j<y->imp (cs L) j = []) (λy=>(l.l-y).n) ?_ ?_
   .grind
   rintro y ⟨⟨t,y1⟩,JR⟩;dsimp only at t y1 JR ⊢
   by_cases z:y<l.l
   .have Z2:=TW (H:=H') B p.ok R tJ Z t U (W y t) (w:=λr => !mJ r) λr dst s K _ k=>Yc (aio r) k;obtain⟨I,JS⟩:∃I,imp (cs L) y=I:=⟨_,rfl⟩;have d':lq (λc=>kN c y && !mJ (lW c y)) (cs L) (cs L).l=I:=JS;rw[d']at Z2;simp[z];refine gU ?_;refine ik.kZ rfl rfl Z2 ?_;rintro _ H2 ⟨rfl,rfl⟩
    by_cases hz:I = []
    .have sV:∀j:Int,0<=j->j<y+1->imp (cs L) j = []:=λj j0 j1=>by grind
     subst hz;simp;refine gU ?_;refine LJ.i (y+1) gP rfl rfl rfl ⟨U,jc,sV⟩
    .have V:=E t z (by rw[JS];exact hz) JR;rw[JS]at V;subst V;have lD:0<I.l:=ay.2 hz;simp[m,q,lD];refine kf m q lD ?_;obtain⟨f1,f2,f3⟩:=X (.row 89 0 [.i y,dN 1 f1 I]) gP;exact⟨⟨_,rfl,.inl rfl⟩,f1,f2,sr,f3,λh=>by cases h⟩
   have x5:y=l.l:=U;subst x5;have hp:∀j:Int,0<=j->j<l.l->∀r∈sd (cs L) j,mJ r=true:=λj j0 j1=>imp_nil (JR j j0 j1);have b:=b JR;clear E JR t y1 z;simp[M];refine jM M ?_;have S:=B.row;refine gZ.e (0:Int) (λy=>[(0,.ptr ck 0 0),(2,.ptr H.l 0 0),(7,.i (mu (cs L) y.n)),(44,.gR sr 0 1 0 l.l),(45,.i l.l),(46,.i y)]) (λy=>H') (λy=>0<=y/\y<=l.l) (λy=>(l.l-y).n) ?_ ?_
   .simp
   rintro y ⟨t,y1⟩;dsimp only at t y1 ⊢
   by_cases z:y<l.l
   .have F:y.n<l.l:=by omega
    have O:H'[P y.n]? = bf (.map KS (jN (Q y.n) 0 (iH (cs L) y))):=by have:=(B.mp y.n F).1;rw[W y t]at this;exact this
    have hS:=afZ (cs L) t
    have iG:0<=mu (cs L) y.n->mu (cs L) y.n<l.l:=λh=>by have:=(Zh (n:=y.n) h).1;omega
    obtain⟨a,ha⟩:∃a,mu (cs L) y.n=a:=⟨_,rfl⟩;rw[ha]at hS iG ⊢;unfold IZ at hS
    by_cases h1:1<(iH (cs L) y).l
    .have a0:=JI.1 h1
     by_cases f:a<0
     .rw[if_pos ⟨a0,.inl f⟩]at hS;simp[z,S,F,O,h1,f];refine kf (aE z S) (aE F O) (aE h1 f) ?_;refine LJ.i (y+1) (by simp[hS]) rfl rfl rfl nE
     .have ZB:=TX (H:=H') B p.ok R tJ t U (W y t) (hp y t z);have ZD:=TX (H:=H') B p.ok R tJ (by omega:0<=a) (by have:=iG U;omega) (W a U) (hp a U (iG U));obtain⟨u,hu⟩:∃u,nD (sd (cs L) y)=u:=⟨_,rfl⟩;obtain⟨v,G⟩:∃v,nD (sd (cs L) a)=v:=⟨_,rfl⟩;rw[hu]at ZB;rw[G]at ZD;rw[hu,G]at hS;simp[z,S,F,O,h1,f];refine kf (aE z S) (aE F O) (aE h1 f) ?_;refine ik.kZ rfl rfl ZB ?_;rintro _ H2 ⟨rfl,rfl⟩;simp;refine ik.kZ rfl rfl ZD ?_;rintro _ H2 ⟨rfl,rfl⟩
      by_cases h3:u<v
      .rw[if_pos ⟨a0,.inr h3⟩]at hS;simp[h3];refine jM h3 ?_;refine LJ.i (y+1) (by simp[hS]) rfl rfl rfl nE
      .rw[if_neg (λh=>by rcases h.2 with h|h<;>omega)]at hS;simp[h3];refine jM h3 ?_;refine LJ.i (y+1) (by simp[hS]) rfl rfl rfl nE
    .rw[if_neg (λh=>h1 (JI.2 h.1))]at hS;simp[z,S,F,O,h1];refine kf (aE z S) (aE F O) h1 ?_;refine LJ.i (y+1) (by simp[hS]) rfl rfl rfl nE
   have x5:y=l.l:=U;subst x5;rw[bA];have hD:=@Zh (cs L) l.l;have I8:=λi=>aiq g hg l A rfl B p.ok R Z (i:=i);obtain⟨a,ha⟩:∃a,mu (cs L) l.l=a:=⟨_,rfl⟩;rw[ha]at b hD ⊢
   by_cases f:a<0
   .rw[if_pos f]at b;subst b;simp[f,m,q];refine kf f m q ?_;obtain⟨f1,f2,f3⟩:=X (.row 89 0 [.i 0,.gV]) rfl;exact⟨rfl,f1,f2,sr,f3,λ_=>⟨ow,P,Q,B.asZ h5 _,λv o G A=>(p.kp v o (jl G) A).2⟩⟩
   .rw[if_neg f]at b;have hD:=hD U;have I8:=I8 a U hD.1 (λj hj=>rfl) hp c3 hs;rw[BS]at I8;obtain⟨I,JS⟩:∃I,lq (tu (jR g l (iq g l)) (cs L) a) (cs L) L.l=I:=⟨_,rfl⟩;rw[JS]at I8 b;subst b;simp[f,m,q];refine kf f m q ?_;refine ik.kZ rfl rfl I8 ?_;rintro _ H2 ⟨rfl,rfl⟩;simp[m,q];refine ko m q ?_;obtain⟨f1,f2,f3⟩:=X (.row 89 0 [.i a,dN 1 f1 I]) gP;exact⟨⟨_,rfl,.inl rfl⟩,f1,f2,sr,f3,λh=>by cases h⟩
 .have lD:0<bad.l:=ay.2 sX;have q:∀o,(H1.set H.l o)[H.l]? = bf o:=λo=>aN (kr m);have V:=JT sX;subst V;have ju:=kr sF;obtain⟨f1,f2,f3⟩:=X (.row 89 0 [.i (-1),.gR v gn 1 0 bad.l]) (by simp[ju]);simp[m,q];refine ko m q ?_
  have c6:H.l<=v:=by
   refine gh λiA=>?_
   by_cases e:v=ck
   .grind
   .have:=(p.kp v _ (jl (cc iA)) e).2;rw[xO]at this;simp at this
  exact⟨⟨_,rfl,.inr ⟨sX,v,gn,rfl,by rw[aC (λe=>by rw[<-e,h5]at xO;simp at xO)];exact sF,c6⟩⟩,f1,f2,sr,f3,λh=>by cases h⟩
end Go.Proofs.YtmehofoficaelaaGreatDoor
namespace Go.Proofs.YtmehofoficaelaaGreatDoor
open Go Go.AL Classical
set_option maxRecDepth 10000
set_option maxHeartbeats 16000000
attribute [-simp] pQ
end Go.Proofs.YtmehofoficaelaaGreatDoor
namespace Go.Proofs.YtmehofoficaelaaGreatDoor
open Go Go.AL Classical
def eS:Env:=[(11,.ptr 2 0 0),(12,.ptr 4 0 0)]
def vP(l:List Int)(k:Int):List Int:=l.take k.n++l.drop (k.n+1)
def ahq{l:List Int}{k:Int}(k0:0<=k)(k1:k<l.l):(vP l k).l=l.l-1:=by unfold vP;rw[aq,aM,aU];omega
structure LS(H0 H:gQ)(q rv:Nat)(st:sx)(left iT:List Int)(ld:D):Prop where
 pq:H[2]? = bf (.row 37 0 [ld])
 vw:(iT = []/\ld = .gV)\/(iT≠[]/\∃v g,(4<v/\(v=q\/H0.l<=v))/\ld = .gR v g 1 0 iT.l/\H[v]? = bf (.row 3 g (cl f1 iT)))
 arr:∃zs,iB zs=eh/\H[3]? = bf (.row 3 0 (cl f1 left++zs))
 o9:H[4]? = bf (.row 37 0 [.gR 3 0 1 0 left.l])
 ok:jZ H.l H
 EX:4<rv
 rc:H[rv]? = bf (.iV 1280 eS st)
 kp:∀w o,H0[w]? = bf o->(4<w\/w<=1)->w≠rv->w≠q->H[w]? = bf o
 le:H0.l<=H.l
section
variable{H0 H:gQ}{q rv:Nat}{st:sx}{left iT:List Int}{ld:D}
theorem LS.len(h:LS H0 H q rv st left iT ld):4<H.l:=kr h.o9
theorem LS.Xh(h:LS H0 H q rv st left iT ld)(st':sx):LS H0 (H.set rv (.iV 1280 eS st')) q rv st' left iT ld:=by
 have key:∀ {w:Nat} {o:Ob},H[w]? = bf o->w≠rv->(H.set rv (.iV 1280 eS st'))[w]? = bf o:=λf j=>by rw[aC (cP j)];exact f
 have i:=h.EX;refine⟨key h.pq U,?_,?_,key h.o9 U,?_,i,aN (kr h.rc),λw o h1 c b a=>key (h.kp w o h1 c b a) b,by rw[av];exact h.le⟩
 .rcases h.vw with h1|⟨h1,v,g,c,b,a⟩
  .exact .inl h1
  .exact .inr ⟨h1,v,g,c,b,key a λe=>by rw[e,h.rc]at a;cases a⟩
 .obtain⟨zs,d,h1⟩:=h.arr;exact⟨zs,d,key h1 U⟩
 .rw[av];refine rR h.ok ?_;have:=h.len;show((kz H.l (.ptr 2 0 0))&&((kz H.l (.ptr 4 0 0))&&eh))=eh;simp;omega
theorem LS.more(h:LS H0 H q rv st left iT ld){o:Ob}(f:pj (H.l+1) o=eh):LS H0 (H ++ [o]) q rv st left iT ld:=by
 refine⟨jl h.pq,?_,?_,jl h.o9,?_,h.EX,jl h.rc,λw o h1 c b a=>jl (h.kp w o h1 c b a),by rw[aq];have:=h.le;omega⟩
 .rcases h.vw with h1|⟨h1,v,g,c,b,a⟩
  .exact .inl h1
  .grind
 .obtain⟨zs,d,h1⟩:=h.arr;exact⟨zs,d,jl h1⟩
 .rw[aq,aT];refine wM (zt U h.ok) λx e=>?_;rw[cp.1 e];exact f
theorem LS.arU(h:LS H0 H q rv st left [] .gV)(x:Int):LS H0 ((H.set 2 (.row 37 0 [.gR H.l 0 1 0 1])) ++ [.row 3 0 (cl f1 [x])]) q rv st left [x] (.gR H.l 0 1 0 1):=by
 have hl:=h.len;have b:=h.EX;have key:∀ {w:Nat} {o:Ob},H[w]? = bf o->w≠2->((H.set 2 (.row 37 0 [.gR H.l 0 1 0 1])) ++ [.row 3 0 (cl f1 [x])])[w]? = bf o:=λg i=>kM;refine⟨?_,.inr ⟨gP,H.l,0,⟨hl,.inr h.le⟩,rfl,?_⟩,?_,key h.o9 U,?_,b,key h.rc U,λw o h1 e d c=>key (h.kp w o h1 e d c) U,by rw[aq,av];have:=h.le;omega⟩
 .grind
 .grind
 .obtain⟨zs,a,h1⟩:=h.arr;exact⟨zs,a,key h1 U⟩
 .rw[aq,av,aT];refine wM (rR (zt U h.ok) ?_) λy f=>?_
  .simp_all
  .simp_all
theorem LS.arV{v g:Nat}(a:v=q\/H0.l<=v)(h:LS H0 H q rv st left iT (.gR v g 1 0 iT.l))(hl:iT≠[])(d:4<v)(b:H[v]? = bf (.row 3 g (cl f1 iT)))(x:Int) :
  LS H0 ((H.set v (.row 3 (g+1) (cl f1 (iT ++ [x])))).set 2 (.row 37 0 [.gR v (g+1) 1 0 (iT.l+1)])) q rv st left (iT ++ [x]) (.gR v (g+1) 1 0 (iT.l+1)):=by
 have j:=h.EX;have f:=kr b;have c:rv≠v:=λe=>by rw[<-e,h.rc]at b;cases b
 have key:∀ {w:Nat} {o:Ob},H[w]? = bf o->w≠2->w≠v->((H.set v (.row 3 (g+1) (cl f1 (iT ++ [x])))).set 2 (.row 37 0 [.gR v (g+1) 1 0 (iT.l+1)]))[w]? = bf o:=λn p r=>kM;refine⟨aN (by rw[av];have:=h.len;omega),.inr ⟨gP,v,g+1,⟨d,a⟩,gP,?_⟩,?_,key h.o9 U U,?_,j,key h.rc U c,λw o h1 m l k=>key (h.kp w o h1 m l k) U λe=>?_,by rw[av,av];exact h.le⟩
 .grind
 .obtain⟨zs,i,h1⟩:=h.arr;exact⟨zs,i,key h1 U U⟩
 .rw[av,av];refine rR (rR h.ok (Cs _)) ?_;show((kz H.l (.gR v (g+1) 1 0 (iT.l+1)))&&eh)=eh;simp[f]
 .rcases a with a|a
  .omega
  .have:=kr h1;omega
theorem LS.del(h:LS H0 H q rv st left iT ld){zs:List D}(b:iB zs=eh)(m:H[3]? = bf (.row 3 0 (cl f1 left++zs))){k:Int}(k0:0<=k)(k1:k<left.l) :
  LS H0 ((H.set 3 (.row 3 0 (cl f1 (vP left k) ++ .i 0::zs))).set 4 (.row 37 0 [.gR 3 0 1 0 (left.l-1)])) q rv st (vP left k) iT ld:=by
 have i:=h.EX;have hl:=h.len;have key:∀ {w:Nat} {o:Ob},H[w]? = bf o->w≠3->w≠4->((H.set 3 (.row 3 0 (cl f1 (vP left k) ++ .i 0::zs))).set 4 (.row 37 0 [.gR 3 0 1 0 (left.l-1)]))[w]? = bf o:=λj l n=>kM;refine⟨key h.pq U U,?_,⟨.i 0::zs,by simpa[iB]using b,?_⟩,?_,?_,i,key h.rc U U,λw o h1 f e c=>key (h.kp w o h1 f e c) U U,by rw[av,av];exact h.le⟩
 .rcases h.vw with h1|⟨h1,v,g,f,e,c⟩
  .exact .inl h1
  .grind
 .grind
 .rw[aN (by rw[av];omega),ahq k0 k1]
 .rw[av,av];refine rR (rR h.ok ?_) ?_
  .refine ej.2 λd a=>?_;rcases ai.1 a with a|a
   .exact E0 (nP (uR _) d a)
   .rcases ak.1 a with rfl|a
    .rfl
    .exact E0 (nP b d a)
  .show((kz H.l (.gR 3 0 1 0 (left.l-1)))&&eh)=eh;simp;omega
end
set_option maxRecDepth 10000
set_option maxHeartbeats 8000000
theorem XI(w:Wk)(v:List gT)(lo:Int):∀n k,k<n->(uL w v lo n)[k]? = bf (Mr w v (lo+k))
 | n+1,k,h=>by
  rw[uL]
  by_cases a:k<n
  .rw[ah (by rw[CO];exact a)];exact XI w v lo n k a
  .have:k=n:=by omega
   subst this;rw[ao (by rw[CO];omega),CO];simp
def vJ(v:List gT)(lo:Int)(n:Nat):List gT:=(v.drop lo.n).take n
def Fc{v:List gT}{lo:Int}{n:Nat}(h:lo.n+n<=v.l):(vJ v lo n).l=n:=by unfold vJ;rw[aM,aU];omega
def afj{v:List gT}{lo:Int}{n k:Nat}(h0:0<=lo)(h:lo.n+n<=v.l)(a:k<n):(vJ v lo n)[k]? = bf (gt v (lo+k)):=by unfold vJ;rw[b9 a,aD,jU U U,cc U];congr 2;omega
def XJ{w:Wk}{v:List gT}{lo:Int}{n:Nat}(h0:0<=lo)(h:lo.n+n<=v.l)(b:w.kind≠4\/w.pos<lo\/lo+n<=w.pos):uL w v lo n=vJ v lo n:=by
 refine bN λk=>?_
 by_cases a:k<n
 .rw[XI w v lo n k a,afj h0 h a];unfold Mr;rw[if_neg U]
 .rw[aY (by rw[CO];omega),aY (by rw[Fc h];omega)]
def aum{w:Wk}{v:List gT}{lo:Int}{n:Nat}(h0:0<=lo)(h:lo.n+n<=v.l)(d:w.kind=4)(h1:lo<=w.pos)(e:w.pos<lo+n):uL w v lo n=pt (vJ v lo n) (w.pos-lo) (w.nY,w.nN):=by
 refine bN λk=>?_
 have b:pt (vJ v lo n) (w.pos-lo) (w.nY,w.nN)=(vJ v lo n).set (w.pos-lo).n (w.nY,w.nN):=by unfold pt;rw[bX,if_pos (by rw[Fc h];omega)]
 rw[b]
 by_cases a:k<n
 .rw[XI w v lo n k a];unfold Mr
  by_cases c:lo+k=w.pos
  .rw[if_pos ⟨d,c⟩,(U:(w.pos-lo).n=k),aN (by rw[Fc h];exact a)]
  .rw[if_neg U,aC U,afj h0 h a]
 .rw[aY (by rw[CO];omega),aY (by rw[av,Fc h];omega)]
def EY:Ob:=.map (.int .i64) [(.int .i64 1,.fn (.func 243) [] []),(.int .i64 3,.fn (.func 244) [] []),(.int .i64 4,.fn (.func 245) [] [])]
def Jy:Wf T 183 [] [] (λd H'=>d = .im 0/\H' = [EY]):=by refine Yg Na ?_;simp[Na];rfl
def aiP{H:gQ}{v gen:Nat}{m:Nat}(w:Wk)(t lo:Int)(gW:jZ H.l H)(b:v<H.l):Wf T 243 [.agg w.cells,.i t,.i lo,.gR v gen 2 0 m] H (λd H'=>d = .tup [.gR v gen 2 0 m,.b eh]/\H'=H):=by have a:=λG=>yh (G:=G) gW (d:=.tup [.gR v gen 2 0 m,.b eh]) (by simp[b]);unfold Wk.cells;refine Yg No ?_;simp[No,a]
def aiQ{H:gQ}{v gen:Nat}{m:Nat}(w:Wk)(t lo:Int)(gW:jZ H.l H)(b:v<H.l):Wf T 244 [.agg w.cells,.i t,.i lo,.gR v gen 2 0 m] H (λd H'=>d = .tup [.gR v gen 2 0 m,.b (decide (w.n<=t))]/\H'=H):=by have a:=λG=>yh (G:=G) gW (d:=.tup [.gR v gen 2 0 m,.b (decide (w.n<=t))]) (by simp[b]);unfold Wk.cells at *;refine Yg Np ?_;simp[Np,a]
def aaQ{H:gQ}{v gen:Nat}{A:List gT}(w:Wk)(t lo:Int)(p:A.l<=64)(m:0<=lo/\lo<=64)(g:w.ok)(gW:jZ H.l H)(h:H[v]? = bf (.row 86 gen (cl fS A))) :
  Wf T 245 [.agg w.cells,.i t,.i lo,.gR v gen 2 0 A.l] H (λd H'=>d = .tup [.gR v gen 2 0 A.l,.b eh] /\
   H'=if lo<=w.pos/\w.pos<lo+A.l then H.set v (.row 86 gen (cl fS (pt A (w.pos-lo) (w.nY,w.nN))))else H):=by
 have j:=g.pos;have k:=g.n;obtain⟨kind,pos,n,nY,nN⟩:=w;unfold Wk.cells;dsimp only at j k ⊢;have f:=kr h;have a:∀R:gQ,(H++R)[v]? = bf (.row 86 gen (cl fS A)):=λR=>jl h;have l:∀(R:gQ) (o:Ob),(H++R).set v o=H.set v o++R:=λR o=>aP _ _ f;have e:kz H.l (.tup [.gR v gen 2 0 A.l,.b eh])=true:=by simp[f]
 have c:=λG=>yh (G:=G) gW e;have h0:0<=pos-lo\/¬lo<=pos:=U
 by_cases h1:lo<=pos
 .by_cases b:pos<lo+A.l
  .rw[if_pos ⟨h1,b⟩,<-pN];have i:=λG=>acJ (H:=H.set v (.row 86 gen ((cl fS A).take ((pos-lo).n*2) ++ .i nY :: .i nN::(cl fS A).drop ((pos-lo).n*2+2)))) (G:=G) (d:=.tup [.gR v gen 2 0 A.l,.b eh]) (av) (rR gW (by rw[pN];simp)) e;refine Yg Ba ?_;simp[Ba,h1,b,a,l,i];omega
  .rw[if_neg U];refine Yg Ba ?_;simp[Ba,h1,b,a,c];omega
 .rw[if_neg U];refine Yg Ba ?_;simp[Ba,h1,a,c]
@[simp] theorem aEn(f:iM)(l:List gT)(lo hi:Option X):vH f 2 (iS l) lo hi=(jd f lo 0).bind λa=>(jd f hi l.l).bind λh=>if 0<=a/\a<=h/\h<=l.l then bf (iS ((l.drop a.n).take (h.n-a.n)))else none:=by unfold iS;rw[SB,di];simp only[L7]
@[simp] theorem aBb(n v:Nat):lL n (.im v) = .im (v+n):=rfl
@[simp] theorem aCw(v:Nat):oC (.im v)=true:=rfl
theorem aik(w:Wk)(l:w.ok)(who t lo hi:Int)(v:List gT)(h0:0<=lo)(h1:lo<hi)(q:hi<=v.l)(G:v.l<=64)(E:0<=who/\who<=1000) :
  Wf T 115 [.agg w.cells,.i who,.i t,iS v,.i lo,.i hi] [] (Is (if Mp w t=eh then .tup [.agg (iW ⟨⟨who,lo,hi,uL w v lo (hi-lo).n,lN (uL w v lo (hi-lo).n)⟩,ek⟩),.b eh]else .tup [.agg ([.i 0,.i 0,.i 0,.gV]++cl fU (zs 32)),.b ek])):=by
 have C:=l.kind;have z:=l.pos;have F:=l.n;have i:lo.n+(hi-lo).n<=v.l:=U;have o:hi.n-lo.n=(hi-lo).n:=U;have g:(v.drop lo.n).take (hi-lo).n=vJ v lo (hi-lo).n:=rfl;have cC:=f82 (vJ v lo (hi-lo).n) (by rw[Fc i];omega) (by rw[Fc i];omega);have p:=Fc (lo:=lo) (n:=(hi-lo).n) i;have b:(uL w v lo (hi-lo).n).l<=64:=by rw[CO];omega
 have n1:¬lo<0:=U;have n2:¬hi<lo:=U;have e:¬(v.l:Int)<hi:=U;have m:pP EY=true:=rfl;obtain⟨kind,pos,n,nY,nN⟩:=w;unfold Mp at *;dsimp only at C z F ⊢;rcases(U:kind=1\/kind=2\/kind=3\/kind=4)with rfl|rfl|rfl|rfl
 .have f:=XJ (w:=⟨1,pos,n,nY,nN⟩) h0 i (.inl gP);rw[f]at b ⊢;obtain⟨A,k⟩:∃A,vJ v lo (hi-lo).n=A:=⟨_,rfl⟩;rw[k]at cC b g p ⊢;have c:=Jx (v:=A) (.inl rfl) b;have a:=AR A;rw[Dr,Ly a];obtain⟨r,j⟩:∃r,lN A=r:=⟨_,rfl⟩;rw[j]at c a ⊢;have h:r.take 32=r:=af U;unfold Wk.cells;refine Yg wU ?_;simp[wU,n1,n2,e];refine rX.n rfl rfl Jy gP (by simp[m]) ?_;simp[EY];refine kf n1 n2 e ?_;simp[h0,q,fg h1,o,g];refine rX.n rfl rfl cC gP gP ?_;simp;refine gU ?_;refine ik.kZ rfl rfl (aiP ⟨1,pos,n,nY,nN⟩ t lo gP gP) ?_;rintro _ _ ⟨rfl,rfl⟩;simp;refine gU ?_;refine ik.r rfl rfl c gP (by simp[flat]) gP ?_;simp[a,h,Sw,P8];rfl
 .unfold Wk.cells;refine Yg wU ?_;simp[wU,n1,n2,e];refine rX.n rfl rfl Jy gP (by simp[m]) ?_;simp[EY]
 .have f:=XJ (w:=⟨3,pos,n,nY,nN⟩) h0 i (.inl gP);rw[f]at b ⊢;obtain⟨A,k⟩:∃A,vJ v lo (hi-lo).n=A:=⟨_,rfl⟩;rw[k]at cC b g p ⊢;have c:=Jx (v:=A) (.inl rfl) b;have a:=AR A;rw[Dr,Ly a];obtain⟨r,j⟩:∃r,lN A=r:=⟨_,rfl⟩;rw[j]at c a ⊢;have h:r.take 32=r:=af U;unfold Wk.cells;refine Yg wU ?_;simp[wU,n1,n2,e];refine rX.n rfl rfl Jy gP (by simp[m]) ?_;simp[EY];refine kf n1 n2 e ?_;simp[h0,q,fg h1,o,g];refine rX.n rfl rfl cC gP gP ?_;simp;refine gU ?_;refine ik.kZ rfl rfl (aiQ ⟨3,pos,n,nY,nN⟩ t lo gP gP) ?_;rintro _ _ ⟨rfl,rfl⟩
  by_cases s:n<=t
  .simp[s];refine jM s ?_;refine ik.r rfl rfl c gP (by simp[flat]) gP ?_;simp[a,h,Sw,P8,s];rfl
  .simp[s]
 .unfold Wk.cells
  by_cases y:lo<=pos/\pos<hi
  .have f:=aum (w:=⟨4,pos,n,nY,nN⟩) h0 i rfl y.1 iv;dsimp only at f;rw[f]at b ⊢;obtain⟨B,D⟩:∃B,vJ v lo (hi-lo).n=B:=⟨_,rfl⟩;rw[D]at cC b g p ⊢;have x:(pt B (pos-lo) (nY,nN)).l=B.l:=jy U U;have d:=λ(H:gQ) (gW:jZ H.l H) (u:H[3]? = bf (.row 86 1 (cl fS B)))=>aaQ (H:=H) (v:=3) (gen:=1) (A:=B) ⟨4,pos,n,nY,nN⟩ t lo U ⟨h0,U⟩ l gW u;dsimp only at d;simp only[if_pos (show lo<=pos/\pos<lo+(B.l:Int)from⟨y.1,by omega⟩)]at d;obtain⟨A,k⟩:∃A,pt B (pos-lo) (nY,nN)=A:=⟨_,rfl⟩;rw[k]at b x d ⊢;have c:=Jx (v:=A) (.inl rfl) b;have a:=AR A;rw[Dr,Ly a];obtain⟨r,j⟩:∃r,lN A=r:=⟨_,rfl⟩;rw[j]at c a ⊢;have h:r.take 32=r:=af U;unfold Wk.cells at d;refine Yg wU ?_;simp[wU,n1,n2,e];refine rX.n rfl rfl Jy gP (by simp[m]) ?_;simp[EY];refine kf n1 n2 e ?_;simp[h0,q,fg h1,o,g];refine rX.n rfl rfl cC gP gP ?_;simp;refine gU ?_;refine ik.kZ rfl rfl (d _ gP gP) ?_;rintro _ _ ⟨rfl,rfl⟩;simp;refine gU ?_;rw[<-x];refine ik.r rfl rfl c gP (by simp[flat]) gP ?_;simp[a,h,Sw,P8];rfl
  .have f:=XJ (w:=⟨4,pos,n,nY,nN⟩) h0 i (.inr iv);rw[f]at b ⊢;obtain⟨A,k⟩:∃A,vJ v lo (hi-lo).n=A:=⟨_,rfl⟩;rw[k]at cC b g p ⊢;have d:=λ(H:gQ) (gW:jZ H.l H) (u:H[3]? = bf (.row 86 1 (cl fS A)))=>aaQ (H:=H) (v:=3) (gen:=1) (A:=A) ⟨4,pos,n,nY,nN⟩ t lo U ⟨h0,U⟩ l gW u;dsimp only at d;simp only[if_neg (U:¬(lo<=pos/\pos<lo+(A.l:Int)))]at d;have c:=Jx (v:=A) (.inl rfl) b;have a:=AR A;rw[Dr,Ly a];obtain⟨r,j⟩:∃r,lN A=r:=⟨_,rfl⟩;rw[j]at c a ⊢;have h:r.take 32=r:=af U;unfold Wk.cells at d;refine Yg wU ?_;simp[wU,n1,n2,e];refine rX.n rfl rfl Jy gP (by simp[m]) ?_;simp[EY];refine kf n1 n2 e ?_;simp[h0,q,fg h1,o,g];refine rX.n rfl rfl cC gP gP ?_;simp;refine gU ?_;refine ik.kZ rfl rfl (d _ gP gP) ?_;rintro _ _ ⟨rfl,rfl⟩;simp;refine gU ?_;refine ik.r rfl rfl c gP (by simp[flat]) gP ?_;simp[a,h,Sw,P8];rfl
def agf(ws:List Wk)(t:TypeId)(n:Nat):sU t (.sl 5 (ws.map qv)) n=bf (.ptr n 0 0,.new (.row t 0 [.sl 5 (ws.map qv)])):=rfl
def aib(ws:List Wk)(v P:List gT)(t:Int):Wf T 62 [.sl 5 (ws.map qv),iS v,.sl 2 (P.map fS),.i t] [] (Is (.fn (.func 114) [] [.ie [.sl 5 (ws.map qv)],.ie [.sl 2 (P.map fS)],.ie [.i t],.ie [iS v]])):=by refine Yg MI ?_;simp[MI,agf ws,sU]
def D6(A:List Cw):gQ:=
 if A = []then [.row 63 0 [.gV],.jJ,.iV 1216 [(10,.ptr 0 0 0)] .ready]
 else [.row 63 0 [.gR 3 (A.l-1) 36 0 A.l],.jJ,.iV 1216 [(10,.ptr 0 0 0)] .ready,.row 72 (A.l-1) (cl iW A)]
def xY{A:List Cw}(h:A≠[]):D6 A = [.row 63 0 [.gR 3 (A.l-1) 36 0 A.l],.jJ,.iV 1216 [(10,.ptr 0 0 0)] .ready,.row 72 (A.l-1) (cl iW A)]:=if_neg h
def nJ.w{T:jt}{v:Nat}{args:List D}{dst:Option Nat}{s s':St}{K:St->Prop}(hs:s=s')(h:nJ T v args dst s' K .mk):nJ T v args dst s K .mk:=by subst hs;exact h
def auq(x:Cw)(w:Wk)(p:gT){dst:Option Nat}{env:Env}{K:St->Prop}
  (h:K { env:=put env dst (.b eh),H:=[.row 63 0 [.gR 7 0 36 0 1],.jJ,.iV 1216 [(10,.ptr 0 0 0)] .ready,.row 149 0 [.i w.kind,.i w.pos,.i w.n,.i w.nY,.i w.nN],.row 204 0 [.i p.1,.i p.2],.row 72 0 (cl iW [x]),.row 72 0 (cl iW [x]),.row 72 0 (cl iW [x])] }) :
  nJ T 2 [.agg (cl iW [x])] dst { env:=env,H:=[.row 63 0 [.gV],.jJ,.iV 1216 [(10,.ptr 0 0 0)] .ready,.row 149 0 [.i w.kind,.i w.pos,.i w.n,.i w.nY,.i w.nN],.row 204 0 [.i p.1,.i p.2],.row 72 0 (cl iW [x])] } K .mk:=by
 have a:(cl iW [x]).l=36:=by rw[ue];rfl
 have b:(cl iW [x]).take 36=cl iW [x]:=af U;refine nJ.r (rf:=1216) (env0:=[(10,.ptr 0 0 0)]) (Rd:=yO) rfl rfl rfl yO.a yO.b (ng rfl) (ng rfl) ?_;simp[yO,a,b];exact h
def aur(A:List Cw)(x:Cw)(w:Wk)(p:gT)(c:A≠[])(d:A.l<=100){dst:Option Nat}{env:Env}{K:St->Prop}
  (h:K { env:=put env dst (.b eh),H:=[.row 63 0 [.gR 3 (A.l-1+1) 36 0 (A.l+1)],.jJ,.iV 1216 [(10,.ptr 0 0 0)] .ready,.row 72 (A.l-1+1) (cl iW (A ++ [x])),.row 149 0 [.i w.kind,.i w.pos,.i w.n,.i w.nY,.i w.nN],.row 204 0 [.i p.1,.i p.2],.row 72 0 (cl iW [x]),.row 72 0 (cl iW [x])] }) :
  nJ T 2 [.agg (cl iW [x])] dst { env:=env,H:=[.row 63 0 [.gR 3 (A.l-1) 36 0 A.l],.jJ,.iV 1216 [(10,.ptr 0 0 0)] .ready,.row 72 (A.l-1) (cl iW A),.row 149 0 [.i w.kind,.i w.pos,.i w.n,.i w.nY,.i w.nN],.row 204 0 [.i p.1,.i p.2],.row 72 0 (cl iW [x])] } K .mk:=by
 have a:(cl iW [x]).l=36:=by rw[ue];rfl
 have b:(cl iW [x]).take 36=cl iW [x]:=af U;refine nJ.r (rf:=1216) (env0:=[(10,.ptr 0 0 0)]) (Rd:=yO) rfl rfl rfl yO.a yO.b (ng rfl) (ng rfl) ?_;simp[yO,a,b];exact oO h
def aij(ws:List Wk)(v P:List gT)(t:Int)(C:∀w∈ws,w.ok)(G:ws.l<=8)(D:v.l<=64)(E:∀p∈P,0<=p.1/\p.1<p.2/\p.2<=(v.l:Int))(j:0<P.l) :
  Wf T 114 [.jF 2,.ie [.sl 5 (ws.map qv)],.ie [iS P],.ie [.i t],.ie [iS v]] (D6 []) (λ_ H'=>H'=D6 (yq ws v P t ws.l)):=by
 have o:D6 [] = [.row 63 0 [.gV],.jJ,.iV 1216 [(10,.ptr 0 0 0)] .ready]:=rfl;have r:(D6 []).l=3:=rfl;have f:¬P = []:=λe=>by rw[e]at j;cases j
 refine Yg MT ?_;simp[MT];refine gU ?_;refine gZ.e ((0,[]):Int×List Cw) (λy=>[(0,.jF 2),(2,.ie [iS P]),(3,.ie [.i t]),(4,.ie [iS v]),(11,.sl 5 (ws.map qv)),(12,.i ws.l),(13,.i y.1)]) (λy=>D6 y.2) (λy=>(0<=y.1/\y.1<=ws.l)/\y.2=yq ws v P t y.1.n) (λy=>(ws.l-y.1).n) ?_ ?_
 .simp[yq]
 rintro⟨i,A⟩ ⟨⟨i0,B⟩,l⟩;dsimp only at i0 B l ⊢
 have F:A.l<=8:=by have:=W8 (ws:=ws) (v:=v) (P:=P) (t:=t) i.n;rw[l];omega
 rw[r]
 by_cases hi:i<ws.l
 .have h:iu i P.l=i % P.l:=kK i0;have b:0<=i % (P.l:Int):=bZ _ U;have d:i % (P.l:Int)<P.l:=bR _ U;have q:=E _ (ij b d);have c:=aik (gt ws i) (C _ (ij i0 hi)) i t (gt P (i % P.l)).1 (gt P (i % P.l)).2 v q.1 q.2.1 q.2.2 D ⟨i0,U⟩;rw[show(gt ws i).cells = [.i (gt ws i).kind,.i (gt ws i).pos,.i (gt ws i).n,.i (gt ws i).nY,.i (gt ws i).nN]from rfl]at c
  have g:yq ws v P t (i+1).n=A++(if Mp (gt ws i) t=eh then [tt (gt ws i) i (gt P (i % P.l)) v]else []):=by rw[(U:(i+1).n=i.n+1),yq,<-l,(U:((i.n:Nat):Int)=i)]
  by_cases s:Mp (gt ws i) t=eh
  .rw[if_pos s]at c g;rw[show(⟨⟨i,(gt P (i % P.l)).1,(gt P (i % P.l)).2,uL (gt ws i) v (gt P (i % P.l)).1 ((gt P (i % P.l)).2-(gt P (i % P.l)).1).n,lN (uL (gt ws i) v (gt P (i % P.l)).1 ((gt P (i % P.l)).2-(gt P (i % P.l)).1).n)⟩,ek⟩:Cw)=tt (gt ws i) i (gt P (i % P.l)) v by unfold tt;rfl]at c;obtain⟨x,u⟩:∃x,tt (gt ws i) i (gt P (i % P.l)) v=x:=⟨_,rfl⟩;rw[u]at c g;clear u;rw[show iW x=cl iW [x]from(jw _).symm]at c;have m:(cl iW [x]).l=36:=by rw[ue];rfl
   have n:(cl iW [x]).take 36=cl iW [x]:=af U
   by_cases a:A = []
   .subst a;rw[o];simp[hi,j,f,h,b,d,i0,yY];refine kf (aE h b) (aE d yY) f ?_;refine ik.c rfl rfl c gP gP ?_;simp[m,n];refine ko m n ?_;refine nJ.w (by simp[b,d,f,yY];rfl) ?_;refine auq x (gt ws i) (gt P (i % P.l)) ?_;simp;refine gU ?_;refine LJ.i (i+1,[x]) (by first|rfl|simp[xY (gP:[x]≠[])]) (by first|rfl|simp[xY (gP:[x]≠[])]) rfl rfl ?_;exact⟨iv,jc,g.symm⟩
   .rw[xY a];simp[hi,j,f,h,b,d,i0,yY];refine kf (aE h b) (aE d yY) f ?_;refine ik.c rfl rfl c gP gP ?_;simp[m,n];refine ko m n ?_;refine nJ.w (by simp[b,d,f,yY];rfl) ?_;refine aur A x (gt ws i) (gt P (i % P.l)) a U ?_;simp;refine gU ?_;have k:A.l-1+1=A.l:=by have:=ay.2 a;omega
    refine LJ.i (i+1,A ++ [x]) (by first|rfl|simp[xY (gP:A ++ [x]≠[]),k]) (by first|rfl|simp[xY (gP:A ++ [x]≠[]),k]) rfl rfl ?_;exact⟨iv,jc,g.symm⟩
  .rw[if_neg s]at c g;rw[az]at g;have H:(cl fU (zs 32)).l=32:=gP
   by_cases a:A = []
   .subst a;rw[o];simp[hi,j,f,h,b,d,i0,yY];refine pM h b d f ?_;refine ik.c rfl rfl c gP gP ?_;simp;refine gU ?_;refine LJ.e (i+1,[]) ?_;exact⟨iv,jc,g.symm⟩
   .rw[xY a];simp[hi,j,f,h,b,d,i0,yY];refine pM h b d f ?_;refine ik.c rfl rfl c gP gP ?_;simp;refine gU ?_;refine LJ.i (i+1,A) (by first|rfl|simp[xY a]) (by first|rfl|simp[xY a]) rfl rfl ?_;exact⟨iv,jc,g.symm⟩
 .have z:i=ws.l:=by omega
  subst z;rw[bA]at l;rw[<-l]
  by_cases a:A = []
  .subst a;rw[o];simp
  .rw[xY a];simp
def ahW(ws:List Wk)(v:List gT)(k t:Int)(j:∀w∈ws,w.ok)(m:ws.l<=8)(p:0<v.l)(l:v.l<=64)(k0:1<=k)(k9:k<=4000)
  {R:List Cw} (d:yq ws v (uT v.l (min k v.l).n 0) t ws.l=R) :
  Wf T 19 [.sl 5 (ws.map qv),iS v,.i k,.i t] [] (Is (Bt R)):=by
 have g:=aia v.l k U U k0 k9;have h:=Dd (n:=v.l) (k:=(min k v.l).n) (a:=0) U U;have o:=PZ (n:=v.l) (k:=(min k v.l).n) (a:=0);obtain⟨P,hP⟩:∃P,uT v.l (min k v.l).n 0=P:=⟨_,rfl⟩;rw[hP]at g h o d;clear hP;have c:¬P.l=0:=U;have i:¬P = []:=λe=>by rw[e]at c;exact c rfl
 refine Yg MA ?_;simp[MA];refine Yc (g) ?_;simp;simp[c,i];refine gU ?_;refine Yc (aib ws v P t) ?_;simp;refine sT.r (f:=114) (first:=[]) (cap:=[.ie [.sl 5 (ws.map qv)],.ie [.sl 2 (P.map fS)],.ie [.i t],.ie [iS v]]) rfl rfl rfl rfl ?_;simp;refine Wf.mono (aij ws v P t j m l h U) ?_;rintro _ H' rfl;rw[d];refine⟨[(10,.ptr 0 0 0)],.ready,?_,?_⟩
 .by_cases b:R = []
  .rw[b];rfl
  .rw[xY b];rfl
 by_cases b:R = []
 .subst b;rw[show D6 [] = [.row 63 0 [.gV],.jJ,.iV 1216 [(10,.ptr 0 0 0)] .ready]from rfl];simp;rfl
 .rw[xY b];simp;exact(if_neg b).symm
set_option maxHeartbeats 16000000
attribute [-simp] pQ
def aaG{H:gQ}{v gen t:Nat}{zs:List D}{l:List Int}{i:Int}{K:D->gQ->Prop}(i0:0<=i)(hi:i<l.l)(a:H[v]? = bf (.row t gen (cl f1 l++zs)))
  (k:K (.gR v gen 1 0 (l.l-1)) (H.set v (.row t gen (cl f1 (vP l i) ++ .i 0::zs)))):Wf T 66 [.gR v gen 1 0 l.l,.i i,.i (i+1)] H K:=by
 obtain⟨n,rfl⟩:∃n:Nat,i=n:=⟨i.n,U⟩;have b:n<l.l:=U
 have e:(l.take n++l.drop (n+1) ++ [0]).map (λn=>D.i n)++zs=cl f1 (vP l n) ++ .i 0::zs:=by unfold vP;rw[yS,bA,dx,aO];rfl
 rw[yS]at a;rw[<-e]at k;exact Ev.uV l n rfl b a ⟨_,_,rfl,k⟩
def aid{x:D}(a:cellsOf x=bf [x])(H:gQ):Wf T 65 [x] H (λd H'=>d = .fn (.func 124) [] [.ptr H.l 0 0]/\H'=H ++ [.row 37 0 [x]]):=by refine Yg MK ?_;simp[MK,sU,a]
def auo{H0 H:gQ}{q rv:Nat}{left iT:List Int}{ld:D}(h:LS H0 H q rv .ready left iT ld)(X:iT.l<=100000)(V:left.l<=100000){k i:Int}(k0:0<=k)(k1:k<left.l){dst:Option Nat}{env:Env}{K:St->Prop}
  (I:∀H' M,LS H0 H' q rv .ready (vP left k) (iT ++ [gt left k]) M->H.l<=H'.l->K { env:=put env dst (.b eh),H:=H' }):nJ T rv [.i i,.i k] dst { env:=env,H:=H } K .mk:=by
 have b:=h.Xh .busy;have G:=h.len;have GV:=kr h.rc;have S:=h.EX;refine nJ.r (rf:=1280) (env0:=eS) (Rd:=FG) (by exact h.rc) rfl rfl FG.a FG.b (ng rfl) (ng rfl) ?_;have z:=h.rc;unfold eS at z;simp[FG,eS,z];obtain⟨a,x⟩:∃a,H.set rv (.iV 1280 [(11,.ptr 2 0 0),(12,.ptr 4 0 0)] .busy)=a:=⟨_,rfl⟩;have Z:a.l=H.l:=by rw[<-x,av]
 rw[show eS = [(11,.ptr 2 0 0),(12,.ptr 4 0 0)]from rfl,x]at b;rw[x];clear x z;obtain⟨zs,F,O⟩:=b.arr;have e:∀R:gQ,(a++R)[2]? = bf (.row 37 0 [ld]):=λR=>jl b.pq;have g:=b.o9;have c:=O
 have hg:(cl f1 left++zs)[k.n]? = bf (.i (gt left k)):=by rw[ah (by rw[ue];omega),yS,aw,cc U,jU k0 k1];rfl
 have j:¬(2=a.l):=U;have n:2<a.l:=U;have W:∀R:gQ,(a++R)[3]? = bf (.row 3 0 (cl f1 left++zs)):=λR=>jl c;have l:∀(R:gQ) (o:Ob),(a++R).set 2 o=a.set 2 o++R:=λR o=>aP _ _ n;have C:∀(o:Ob) (R:gQ),(a.set 2 o++R)[4]? = bf (.row 37 0 [.gR 3 0 1 0 left.l]):=λo R=>jl (by rw[aC U];exact g);have m:∀(o:Ob) (R:gQ),(a.set 2 o++R)[3]? = bf (.row 3 0 (cl f1 left++zs)):=λo R=>jl (by rw[aC U];exact c);rcases b.vw with⟨rfl,rfl⟩|⟨Q,v,t,⟨L,A⟩,rfl,B⟩
 .have E:∀(o:Ob) (R:gQ) (i:Nat),(a.set 2 o++R)[a.l+i]? = R[i]? := λo R i=>by rw[ao (by rw[av];omega),av];congr 1;omega
  simp[e,b.pq,g,c,hg,k0,k1,j,l,E,C];refine pM (aE e (aE b.pq g)) (aE c (aE hg k0)) (aE k1 (aE j l)) (aE E C) ?_;refine ik.w (by simp[e,b.pq,j,l];rfl) ?_;refine ik.kZ rfl rfl (aaG (K:=λd H'=>d = .gR 3 0 1 0 (left.l-1)/\H'=(a.set 2 (Ob.row 37 0 [D.gR (a.l+1) 0 1 0 1]) ++ [Ob.row 3 0 [D.i (gt left k)],Ob.row 3 0 [D.i (gt left k)]]).set 3 (Ob.row 3 0 (cl f1 (vP left k)++D.i 0::zs))) k0 k1 (m _ _) ⟨rfl,rfl⟩) ?_;rintro _ _ ⟨rfl,rfl⟩;simp[C]
  have f:=((b.more (o:=.row 3 0 [.i (gt left k)]) rfl).arU (gt left k)).del (zs:=zs) F (by rw[l,aO];exact m _ _) k0 k1
  rw[l,aO,aq,aT]at f;have s:=f.rc;simp only[jw,bz,aS,(gP:f1 (gt left k) = [D.i (gt left k)])]at f s;simp[s];exact I _ _ (f.Xh .ready) iz
 .have P:=kr B;have p:∀R:gQ,(a++R)[v]? = bf (.row 3 t (cl f1 iT)):=λR=>jl B;have y:∀(R:gQ) (o:Ob),(a++R).set v o=a.set v o++R:=λR o=>aP _ _ P;have N:v≠2:=U;have w:∀(o:Ob) (R:gQ),(a.set v o++R)[2]? = bf (.row 37 0 [.gR v t 1 0 iT.l]):=λo R=>jl (by rw[aC N];exact b.pq);have u:∀(o o':Ob) (R:gQ),((a.set v o).set 2 o'++R)[4]? = bf (.row 37 0 [.gR 3 0 1 0 left.l]):=λo o' R=>jl (by rw[aC U,aC U];exact g);have J:∀(o o':Ob) (R:gQ),((a.set v o).set 2 o'++R)[3]? = bf (.row 3 0 (cl f1 left++zs)):=λo o' R=>jl (by rw[aC U,aC U];exact c);have r:∀(o o':Ob) (R:gQ),(a.set v o++R).set 2 o'=(a.set v o).set 2 o'++R:=λo o' R=>aP _ _ (by rw[av];exact n);simp[e,b.pq,g,c,hg,k0,k1,j,p,y,w,r,u];(with_reducible repeat' first|refine Xk ?_<;>try simp[e,b.pq,g,c,hg,k0,k1,j,p,y,w,r,u]|refine Xs ?_ ?_<;>intro h<;>(try intro Y)<;>(try simp[h,e,b.pq,g,c,hg,k0,k1,j,p,y,w,r,u])<;>try omega|refine Xg ?_|omega);refine ik.w (by simp[e,b.pq,j,p,y,w,r];rfl) ?_;refine ik.kZ rfl rfl (aaG (K:=λd H'=>d = .gR 3 0 1 0 (left.l-1)/\H'=((a.set v (Ob.row 3 (t+1) (cl f1 (iT ++ [gt left k])))).set 2 (Ob.row 37 0 [D.gR v (t+1) 1 0 (iT.l+1)]) ++ [Ob.row 3 0 [D.i (gt left k)]]).set 3 (Ob.row 3 0 (cl f1 (vP left k)++D.i 0::zs))) k0 k1 (J _ _ _) ⟨rfl,rfl⟩) ?_;rintro _ _ ⟨rfl,rfl⟩;simp[u];have f:=(((b.arV A Q L B (gt left k))).more (o:=.row 3 0 [.i (gt left k)]) rfl).del (zs:=zs) F (J _ _ _) k0 k1;have s:=f.rc;simp[s];exact I _ _ (f.Xh .ready) iz
end Go.Proofs.YtmehofoficaelaaGreatDoor
namespace Go.Proofs.YtmehofoficaelaaGreatDoor
open Go Go.AL Classical
def at1{n k:Nat}(h:k<n):∃R:List Int,upto n=upto k++(k:Int)::R/\∀p∈R,(k:Int)<p:=by
 refine⟨(eL (k+1) (n-(k+1))).map λi:Nat=>(i:Int),?_,λp a=>?_⟩
 .unfold upto
  rw[show((k:Int)::(eL (k+1) (n-(k+1))).map λi:Nat=>(i:Int))=(eL k (n-k)).map λi:Nat=>(i:Int)by rw[(U:n-k=(n-(k+1))+1),cE];rfl,<-dx]
  congr 1;rw[cy,cy];have:=List.range'_append (s:=0) (m:=k) (n:=n-k) (step:=1);rw[(U:k+(n-k)=n),Nat.one_mul,aR]at this;exact this.symm
 .obtain⟨i,hi,rfl⟩:=aj.1 a;rw[dw]at hi;omega
def asx{left S:List Int}{k:Nat}(h:k<left.l)(hS:∀p∈S,(k:Int)<p) :
  ∃R,oD left S=left.take k++gt left k::R/\oD left ((k:Int)::S)=left.take k++R:=by
 obtain⟨R,f,g⟩:=at1 h
 have e:∀S:List Int,(∀p∈S,(k:Int)<p\/p=k)->((upto k).filter λp => !S.contains p)=upto k:=λS hS=>dO.2 λp a=>by have:=l8.1 a;simp only[dq,eP,decide_eq_false_iff_not];intro c;rcases hS p c with h|h<;>omega
 have d:((upto k).map λp=>gt left p)=left.take k:=by
  refine bH (by simp[ru];omega) λi h1 j=>?_;rw[br,List.getElem_take];have hi:i<k:=by simpa[ru]using h1
  have:(upto k)[i]'(by rw[ru];exact hi)=(i:Int):=by simp[upto]
  rw[this,jU U U];simp
 refine⟨(R.filter λp => !S.contains p).map λp=>gt left p,?_,?_⟩
 .unfold oD
  have b:(!S.contains (k:Int))=true:=by simp only[dq,eP,decide_eq_false_iff_not];intro c;have:=hS _ c;omega
  rw[f,bY,e S λp a=>.inl (hS p a),dx,d,eB,if_pos b];rfl
 .unfold oD;have b:¬(!((k:Int)::S).contains (k:Int))=true:=gP;rw[f,bY,e _ λp a=>?_,dx,d,eB,if_neg b]
  .congr 2;refine fO λp a=>?_;have:=g p a;simp;omega
  .rcases ak.1 a with rfl|a
   .exact .inr rfl
   .exact .inl (hS p a)
def ael(left:List Int):oD left []=left:=by
 unfold oD;rw[dO.2 gP];refine bH (by simp[ru]) λi h1 a=>?_;rw[br];have:(upto left.l)[i]'(by rw[ru];exact a)=(i:Int):=by simp[upto]
 rw[this,jU U U];simp
def asy{left S:List Int}{k:Int}(k0:0<=k)(h:k<left.l)(hS:∀p∈S,k<p) :
  (k<(oD left S).l/\gt (oD left S) k=gt left k)/\vP (oD left S) k=oD left (k::S):=by
 obtain⟨n,rfl⟩:∃n:Nat,k=n:=⟨k.n,U⟩;have b:n<left.l:=U;obtain⟨R,h1,c⟩:=asx b hS;have hl:(left.take n).l=n:=by rw[aM];omega
 rw[h1,c];have a:n<(left.take n++gt left n::R).l:=iz;refine⟨⟨U,?_⟩,?_⟩
 .rw[jU U U];simp only[bA];rw[List.getElem_append_right U];simp[hl]
 .unfold vP;simp only[bA];rw[aV U,af U,(U:n+1=(left.take n).l+1),gg];simp
set_option maxRecDepth 10000
set_option maxHeartbeats 16000000
attribute [-simp] pQ
def air{H0 H:gQ}{q rv:Nat}{left iT:List Int}{ld:D}(h:LS H0 H q rv .ready left iT ld){ls:List Int}(Q:∀k∈ls,0<=k/\k<left.l)(L:ls.Pairwise (· < ·))(W:ls.l<=100000)
  (V:iT.l+ls.l<=100000) (O:left.l<=100000) {n:Nat} {x:D} (G:H0[n]? = bf (.row 37 0 [x])) (l:4<n/\n≠rv/\n≠q)
  (F:x=dN 1 f1 ls\/∃v g,x = .gR v g 1 0 ls.l/\H0[v]? = bf (.row 3 g (cl f1 ls))/\4<v/\v≠rv/\v≠q) :
  Wf T 124 [.jF rv,.ptr n 0 0] H (λ_ H'=>∃b,LS H0 H' q rv .ready (oD left ls) (iT++ls.reverse.map λk=>gt left k) b/\H.l<=H'.l):=by
 have E:∀Hc,od .slice x Hc=bf (.i ls.l):=λHc=>by
  rcases F with rfl|⟨v,g,rfl,_⟩
  .cases ls with
   | nil=>rfl
   | cons a r=>simp[dN]
  .simp
 have t:∀S:List Int,(oD left S).l<=left.l:=λS=>by unfold oD;rw[di];have:=List.length_filter_le (λp => !S.contains p) (upto left.l);rwa [ru]at this
 have j:=h.kp n _ G (.inl l.1) l.2.1 l.2.2;refine Yg M1 ?_;simp[M1,E,j];refine ko E j ?_;refine gZ.e ((H,(ls.l:Int)-1,ld):gQ×Int×D) (λy=>[(0,.jF rv),(1,.ptr n 0 0),(3,.i y.2.1)]) (λy=>y.1) (λy=>(-1<=y.2.1/\y.2.1<ls.l)/\H.l<=y.1.l/\LS H0 y.1 q rv .ready (oD left (ls.drop (y.2.1+1).n)) (iT++(ls.drop (y.2.1+1).n).reverse.map λk=>gt left k) y.2.2) (λy=>(y.2.1+1).n) ?_ ?_
 .refine tV ⟨er _,?_⟩;dsimp only;rw[(U:((ls.l:Int)-1+1).n=ls.l),List.drop_length,ael];simpa using h
 rintro⟨Hc,i,z⟩ ⟨⟨i0,M⟩,J,d⟩;dsimp only at i0 M J d ⊢;have j:=d.kp n _ G (.inl l.1) l.2.1 l.2.2
 by_cases hi:0<=i
 .obtain⟨m,rfl⟩:∃m:Nat,i=m:=⟨i.n,U⟩;have w:m<ls.l:=U
  have c:ls.drop m=gt ls m::ls.drop (m+1):=by rw[bW w,jU U U];rfl
  rw[(U:((m:Int)+1).n=m+1)]at d
  have o:(cl f1 ls)[m]? = bf (.i (gt ls (m:Int))):=by rw[yS,aw,cc w,jU U U];rfl
  obtain⟨k,C⟩:∃k,gt ls (m:Int)=k:=⟨_,rfl⟩;rw[C]at c o;have u:∀h,(cl f1 ls)[m]'h = .i k:=λh=>by rw[cc h]at o;exact cA o
  obtain⟨S,hS⟩:∃S,ls.drop (m+1)=S:=⟨_,rfl⟩;rw[hS]at c d;have N:(k::S).Pairwise (· < ·):=by rw[<-c];exact L.drop
  have B:=(aI.1 N).1;have A:k∈ls:=bO (i:=m) (by rw[c];simp)
  have R:S.l+1<=ls.l:=by have:=congrArg List.l c;rw[aU,aF]at this;omega
  obtain⟨k0,k1⟩:=Q k A;obtain⟨⟨q1,q2⟩,q3⟩:=asy k0 k1 B
  have I:∀(env:Env) (K:St->Prop),(∀H' b,LS H0 H' q rv .ready (oD left (ls.drop m)) ((iT++S.reverse.map λk=>gt left k) ++ [gt left k]) b->Hc.l<=H'.l->K { env:=put env (bf 17) (.b eh),H:=H' }) ->
    nJ T rv [.i (m:Int),.i k] (bf 17) { env:=env,H:=Hc } K .mk:=λenv K P=>auo d iz (by have:=t S;omega) k0 q1 λH' b e f=>by
   rw[q2,q3,<-c]at e;exact P H' b e f
  rcases F with rfl|⟨v,g,rfl,hv,xj,hv5,hv6⟩
  .simp[j];refine jM C ?_;simp[C];refine I _ _ λH' b e f=>?_;simp;refine gU ?_;refine LJ.i (H',(m:Int)-1,b) gP rfl rfl rfl ⟨iv,jc,iv,?_⟩;dsimp only;rw[(U:((m:Int)-1+1).n=m)];rw[c]at e ⊢;simpa using e
  .have s:=d.kp v _ hv (.inl xj) hv5 hv6;simp[j,s,o,u,w];refine kf (aE j s) (aE o u) w ?_;refine I _ _ λH' b e f=>?_;simp;refine gU ?_;refine LJ.i (H',(m:Int)-1,b) gP rfl rfl rfl ⟨iv,jc,iv,?_⟩;dsimp only;rw[(U:((m:Int)-1+1).n=m)];rw[c]at e ⊢;simpa using e
 .simp[hi];refine jM hi ?_;rw[(U:(i+1).n=0),eJ]at d;exact⟨⟨z,by simpa using d⟩,J⟩
end Go.Proofs.YtmehofoficaelaaGreatDoor
namespace Go.Proofs.YtmehofoficaelaaGreatDoor
open Go Go.AL Classical
def af0{cl:List iF}{n:Nat}(h:¬mu cl n<0):om (sd cl (mu cl n))=eh/\0<=mu cl n/\mu cl n<n:=by
 rcases IY cl n with⟨e,_⟩|⟨h1,a,_⟩
 .omega
 .exact⟨a,h1⟩
def alb{A:mM}{n:Nat}{ad:iF->Bool}{cl:List iF}{a:Int}{ls:List Int}(h:o6 A n ad cl = .v a ls):(∃q,ls=idx q cl)/\ls≠[]/\-1<=a:=by
 unfold o6 at h;split at h
 .rename_i o;cases h;exact⟨⟨_,rfl⟩,o,U⟩
 split at h
 .cases h
 split at h
 .rename_i i hi;cases h;have h1:=List.find?_some hi;have p:=fV hi;rw[l8]at p;exact⟨⟨_,rfl⟩,by simpa using h1,U⟩
 .rename_i f;split at h
  .cases h
  .rename_i g;cases h;obtain⟨m,h0,h1⟩:=af0 g
   have l:∀r∈sd cl (mu cl n),mJ r=true:=λr k=>by
    obtain⟨c,b,d,rfl⟩:=uD.1 k;have:=dR.1 f (mu cl n) (l8.2 ⟨h0,h1⟩);simp only[decide_eq_true_eq,Classical.not_not]at this
    cases e:mJ (lW c (mu cl n))with
    | true=>rfl
    | false=>exact absurd this (Aw.2 ⟨c,b,by simp[d,e]⟩)
   obtain⟨c,b,j⟩:=afq (A:=A) l m;exact⟨⟨_,rfl⟩,Aw.2 ⟨c,b,j⟩,U⟩
def ak0{q:iF->Bool}{cl:List iF}:∀k∈idx q cl,0<=k/\k<cl.l:=λk a=>(EA.1 a).1
def XF(n:Nat):(upto n).Pairwise (· < ·):=by unfold upto;rw[eO];exact List.pairwise_lt_range.imp λh=>U
def ak1{q:iF->Bool}{cl:List iF}:(idx q cl).Pairwise (· < ·):=(XF _).filter _
structure LB(g:gY)(l:List Pos)(nx:List (List Int))(L:List Cw)(H:gQ)(left iT:List Int)(ld dv:D):Prop where
 h0:H[0]? = bf (.row 43 0 g.cells)
 ct:∃old,H[1]? = bf (.row 168 0 (lB g l nx dv old))
 pq:H[2]? = bf (.row 37 0 [ld])
 vw:(iT = []/\ld = .gV)\/(iT≠[]/\∃v gn,4<v/\ld = .gR v gn 1 0 iT.l/\H[v]? = bf (.row 3 gn (cl f1 iT)))
 arr:∃zs,iB zs=eh/\H[3]? = bf (.row 3 0 (cl f1 left++zs))
 o9:H[4]? = bf (.row 37 0 [.gR 3 0 1 0 left.l])
 ok:jZ H.l H
 cv:CV H 1 (left.map λk=>gt L k) dv
def LB.ale{g:gY}{l:List Pos}{nx:List (List Int)}{L:List Cw}{H H':gQ}{left iT:List Int}{ld dv:D}{cm:List iF}{J:Jd}{d:D}(h:LB g l nx L H left iT ld dv)(a:JP g l nx dv cm H H' 1 J d) :
  LB g l nx L H' left iT ld dv:=by
 obtain⟨sr,f,_⟩:=a.ct;refine⟨a.kp _ _ h.h0 U,⟨_,f⟩,a.kp _ _ h.pq U,?_,?_,a.kp _ _ h.o9 U,a.ok,?_⟩
 .rcases h.vw with h1|⟨h1,v,e,c,b,j⟩
  .exact .inl h1
  .exact .inr ⟨h1,v,e,c,b,a.kp _ _ j U⟩
 .obtain⟨zs,i,h1⟩:=h.arr;exact⟨zs,i,a.kp _ _ h1 U⟩
 .rcases h.cv with h1|h1|⟨v,e,h1,c,b⟩
  .exact .inl h1
  .exact .inr (.inl h1)
  .exact .inr (.inr ⟨v,e,h1,c,a.kp _ _ b h1⟩)
def LB.toLS{g:gY}{l:List Pos}{nx:List (List Int)}{L:List Cw}{H:gQ}{left iT:List Int}{ld dv:D}(h:LB g l nx L H left iT ld dv){R:gQ}{j:Nat}(k:R[j]? = bf (.iV 1280 eS .ready))(m:∀o∈R,pj (H.l+R.l) o=eh) :
  ∃q,(q=2\/∃a,ld = .gR q a 1 0 iT.l/\4<q)/\q<H.l/\LS (H++R) (H++R) q (H.l+j) .ready left iT ld:=by
 have n:=kr h.o9
 have gW:jZ (H++R).l (H++R):=by rw[aq];exact wM (zt U h.ok) m
 have c:(H++R)[H.l+j]? = bf (.iV 1280 eS .ready):=by rw[ao U,Nat.add_sub_cancel_left];exact k
 obtain⟨zs,d,h1⟩:=h.arr;rcases h.vw with b|⟨b,v,a,f,e,i⟩
 .exact⟨2,.inl rfl,U,jl h.pq,.inl b,⟨zs,d,jl h1⟩,jl h.o9,gW,U,c,λw o h1 _ _ _=>h1,er _⟩
 .exact⟨v,.inr ⟨a,e,f⟩,kr i,jl h.pq,.inr ⟨b,v,a,⟨f,.inl rfl⟩,e,jl i⟩,⟨zs,d,jl h1⟩,jl h.o9,gW,U,c,λw o h1 _ _ _=>h1,er _⟩
end Go.Proofs.YtmehofoficaelaaGreatDoor
namespace Go.AL
open Go
section
variable{T:jt}{live:List Nat}{a:IR}{s:St}{K:jD}{α:Type}
theorem gZ.mi(keys:List Nat)(i:(keys.all λk=>live.contains k)=eh)(E:α->Env)(f:α->gQ)(M:α->List Nat)(P:α->Prop)(d:α->Nat)(c:α)
  (h0:P c) (p:forget keys s.env=E c) (n:s.H=f c) (j:s.marks=M c)
  (h:∀x,P x->XC T a { env:=E x,H:=f x,marks:=M x,iI:=s.iI } (vz s.H.l live keys (λe H m r=>∃b,e=E b/\H=f b/\m=M b/\r=s.iI/\d b<d x/\P b) K)):gZ T live a s K .mk:=by
 refine Wc.loop (λm s'=>∃x,P x/\m=d x/\({ s' with env:=forget keys s'.env }:St) = { env:=E x,H:=f x,marks:=M x,iI:=s.iI }) (d c) ⟨c,h0,rfl,?_⟩ ?_
 .dsimp only;rw[T8 i,p];rw[<-n,<-j]
 .rintro m s' ⟨x,hP,rfl,l⟩;refine Ev.F9 keys ?_;rw[l];refine(XC.wc (h x hP)).mono λo g=>?_
  cases o with
  | norm v=>
   obtain⟨b,t,z,y,w,u,h1⟩:=g;refine⟨d b,u,b,h1,rfl,?_⟩;rw[t];generalize cut s.H.l live v=q at *;cases q;simp_all
  | exit=>exact g
  | ret=>exact g
def LM(E:α->Env)(b:α->gQ)(M:α->List Nat)(Q:α->Prop)(_:Tag (E,b,M,Q))(e:Env)(H:gQ)(m:List Nat)(r:Bool):Prop:=
 ∃a,e=E a/\H=b a/\m=M a/\r=ek/\Q a
theorem LM.i{E:α->Env}{b:α->gQ}{M:α->List Nat}{Q:α->Prop}{t:Tag (E,b,M,Q)}{e:Env}{H:gQ}{m:List Nat}{r:Bool}(a:α)(h1:e=E a)(g:H=b a)(f:m=M a)(d:r=ek)(c:Q a):LM E b M Q t e H m r:=⟨a,h1,g,f,d,c⟩
theorem gZ.m(b:α)(E:α->Env)(c:α->gQ)(M:α->List Nat)(P:α->Prop)(d:α->Nat)
  (h:∀x,P x->XC T a { env:=E x,H:=c x,marks:=M x } (vz s.H.l live ((E b).map (·.1)) (LM E c M (λe=>d e<d x/\P e) .mk) K))
  (h0:P b) (l:forget ((E b).map (·.1)) s.env=E b) (j:s.H=c b) (i:s.marks=M b) (g:s.iI=ek) (f:(((E b).map (·.1)).all λk=>live.contains k)=eh):gZ T live a s K .mk:=
 gZ.mi _ f E c M P d b h0 l j i (by rw[g];exact h)
end
end Go.AL
namespace Go.Proofs.YtmehofoficaelaaGreatDoor
open Go Go.AL Classical
def outs(n:Nat)(left:List Int):List Int:=(upto n).filter λk => !left.contains k
def XE(n:Nat):(upto n).Nodup:=(XF n).imp λh e=>U
def arX{n:Nat}{iT left:List Int}(h:(iT++left).Perm (upto n)):iT.mergeSort (λx y=>decide (x<=y))=outs n left:=by
 have e:(iT++left).Nodup:=h.nodup_iff.2 (XE n);rw[a8]at e;obtain⟨h1,_,d⟩:=e;have f:=fu iT (λx y=>decide (x<=y));have i:(iT.mergeSort (λx y=>decide (x<=y))).Nodup:=f.nodup_iff.2 h1
 have hs:(iT.mergeSort (λx y=>decide (x<=y))).Pairwise λx y=>decide (x<=y)=true:=
  eN (λa b c h1 d=>by simp only[decide_eq_true_eq]at h1 d ⊢;omega) (λa b=>by simp only[bM,decide_eq_true_eq];omega) iT
 refine HW ((hs.and i).imp λ⟨h1,d⟩=>by simp only[decide_eq_true_eq]at h1;omega) ((XF n).filter _) λk=>?_;unfold outs;rw[f.mem_iff,aH];have g:=h.mem_iff (a:=k);rw[ai]at g;simp only[dq,eP,decide_eq_false_iff_not];constructor
 .grind
 .grind
def asz{left ls:List Int}(g:ls.Nodup)(i:∀p∈ls,0<=p/\p<left.l):((ls.reverse.map λk=>gt left k)++oD left ls).Perm left:=by
 have e:(upto left.l).map (λp=>gt left p)=left:=by have:=ael left;unfold oD at this;rwa [dO.2 gP]at this
 have h1:(ls.reverse++(upto left.l).filter λp => !ls.contains p).Perm (upto left.l):=by
  refine(List.perm_ext_iff_of_nodup ?_ (XE _)).2 λk=>?_
  .rw[a8];refine⟨(List.reverse_perm ls).nodup_iff.2 g,(XE _).filter _,λa c b d e=>?_⟩;rw[eK]at c;rw[aH]at d;rw[e]at c;simp[c]at d
  .rw[ai,eK,aH,l8];have:=i k
   by_cases h:k∈ls
   .grind
   .simp[h]
 have f:=h1.map (λp=>gt left p);rw[e,dx]at f;exact f
noncomputable def E9(A:mM)(n:Nat)(ad:iF->Bool)(cl:List iF):List Int×Jd:=E' A n ad cl (cl.l+1) (upto cl.l)
structure SI(A:mM)(n:Nat)(ad:iF->Bool)(cl:List iF)(left iT:List Int):Prop where
 pm:(iT++left).Perm (upto cl.l)
 st:∃f,left.l<f/\E' A n ad cl f left=E9 A n ad cl
section
variable{A:mM}{n:Nat}{ad:iF->Bool}{cl:List iF}{left iT:List Int}
theorem SI.start:SI A n ad cl (upto cl.l) []:=⟨gP,_,by rw[ru];omega,rfl⟩
theorem SI.rng(h:SI A n ad cl left iT):∀k∈left,0<=k/\k<cl.l:=λk a=>l8.1 (h.pm.mem_iff.1 (bK _ a))
theorem SI.len(h:SI A n ad cl left iT):iT.l+left.l=cl.l:=by have:=h.pm.length_eq;rwa [aq,ru]at this
theorem SI.step(h:SI A n ad cl left iT){a:Int}{ls:List Int}(i:o6 A n ad (left.map λk=>gt cl k) = .v a ls) :
  SI A n ad cl (oD left ls) (iT++ls.reverse.map λk=>gt left k)/\(oD left ls).l<left.l/\(∀p∈ls,0<=p/\p<left.l)/\ls.Pairwise (· < ·)/\ls≠[]:=by
 obtain⟨⟨q,g⟩,d,_⟩:=alb i
 have c:∀p∈ls,0<=p/\p<left.l:=λp b=>by rw[g]at b;have:=ak0 p b;rwa [di]at this
 have hs:ls.Pairwise (· < ·):=by rw[g];exact ak1
 obtain⟨p,b⟩:=de _ d;have j:=aek b (c p b).1 (c p b).2;obtain⟨f,l,e⟩:=h.st;refine⟨⟨?_,?_⟩,j,c,hs,d⟩
 .rw[aO];exact((asz (hs.imp λh e=>U) c).append_left iT).trans h.pm
 .cases f with
  | zero=>omega
  | succ f=>
   rw[E',i]at e;exact⟨f,U,e⟩
theorem SI.done(h:SI A n ad cl left iT){J:Jd}(c:o6 A n ad (left.map λk=>gt cl k)=J)(b:∀a ls,J≠.v a ls):E9 A n ad cl=(left,J):=by
 obtain⟨f,d,e⟩:=h.st;rw[<-e]
 cases f with
 | zero=>omega
 | succ f=>
  rw[E',c]
  cases J with
  | v a ls=>exact absurd rfl (b a ls)
  | none=>rfl
  | De=>rfl
theorem alc(h:o6 A n ad cl = .none){i:Int}(i0:0<=i)(d:i<n):∀r∈sd cl i,mJ r=true:=λr f=>by
 unfold o6 at h;split at h
 .cases h
 split at h
 .cases h
 split at h
 .cases h
 .rename_i b;obtain⟨c,g,a,rfl⟩:=uD.1 f;have:=dR.1 b i (l8.2 ⟨i0,d⟩);simp only[decide_eq_true_eq,Classical.not_not]at this
  cases e:mJ (lW c i)with
  | true=>rfl
  | false=>exact absurd this (Aw.2 ⟨c,g,by simp[a,e]⟩)
end
def AZ(cl:List iF)(left:List Int)(n:Nat):List gT:=(upto n).map λi=>pd (sd (left.map λk=>gt cl k) i)
def Mc(cl:List iF)(left:List Int)(n:Nat):(AZ cl left n).l=n:=by unfold AZ;rw[di,ru]
def aeU(cl:List iF)(left:List Int){n:Nat}{i:Int}(i0:0<=i)(a:i<n):gt (AZ cl left n) i=pd (sd (left.map λk=>gt cl k) i):=by rw[jU i0 (by rw[Mc];exact a)];unfold AZ;rw[br];congr 2;simp[upto];omega
noncomputable def xw(A:mM)(n:Nat)(ad:iF->Bool)(cl:List iF):Option (List gT)×List Int:=
 (if (E9 A n ad cl).2 = .none/\∀k:Int,0<=k->k<n->kE A (AZ cl (E9 A n ad cl).1 n) k then bf (AZ cl (E9 A n ad cl).1 n)else none,outs cl.l (E9 A n ad cl).1)
def CI:Option (List gT)×List Int->List D
 | (bf v,o)=>[iS v,dN 1 f1 o,.i 0]
 | (none,o)=>[.gV,dN 1 f1 o,.i 180]
def ag8{L:List Cw}{left:List Int}(h:∀k∈left,0<=k/\k<L.l):cs (left.map λk=>gt L k)=left.map λk=>gt (cs L) k:=by unfold cs;rw[bC];refine au λk a=>?_;have:=h k a;exact(JK this.1 this.2).symm
theorem V3:∀(ms:List Nat) (H:gQ),ms.Nodup->(∀v∈ms,H[v]? = bf .jJ)->∃H',kill ms H=bf H'/\H'.l=H.l/\∀w:Nat,w ∉ ms->H'[w]? = H[w]?
 | [],H,_,_=>⟨H,rfl,rfl,λ_ _=>rfl⟩
 | v::ms,H,hn,h=>by
  rw[bT]at hn;obtain⟨H',h1,b,c⟩:=V3 ms (H.set v .dead) hn.2 λw a=>kM;refine⟨H',?_,by rw[b,av],λw a=>?_⟩
  .simp_all
  .grind
structure CB(g:gY)(l:List Pos)(nx:List (List Int))(L:List Cw)(left:List Int)(old:D)(Hs Hc:gQ)(y:Nat)(dv:D):Prop where
 ct:Hc[1]? = bf (.row 168 0 (lB g l nx dv old))
 dv:(y=0/\dv = .gV)\/(0<y/\∃v gn,Hs.l<=v/\dv = .gR v gn 36 0 y/\Hc[v]? = bf (.row 72 gn (cl iW ((left.take y).map λk=>gt L k))))
 kp:∀w o,Hs[w]? = bf o->w≠1->Hc[w]? = bf o
 ok:jZ Hc.l Hc
 le:Hs.l<=Hc.l
section
variable{g:gY}{l:List Pos}{nx:List (List Int)}{L:List Cw}{left:List Int}{old dv:D}{Hs Hc:gQ}{y:Nat}
theorem R4{n:Nat}{dv old:D}(h1:kz n dv=eh)(a:kz n old=eh):pj n (.row 168 0 (lB g l nx dv old))=true:=by unfold lB;simp[h1,a]
theorem CB.start{d0:D}(h1:Hs[1]? = bf (.row 168 0 (lB g l nx d0 old)))(gW:jZ Hs.l Hs):CB g l nx L left old Hs (Hs.set 1 (.row 168 0 (lB g l nx .gV old))) 0 .gV:=by have hl:=kr h1;have b:kz Hs.l old=true:=ej.1 (gW _ (ez h1)) old (by unfold lB;simp);refine⟨aN hl,.inl ⟨rfl,rfl⟩,λw o a c=>by rw[aC (cP c)];exact a,?_,by rw[av];exact er _⟩;rw[av];exact rR gW (R4 rfl b)
theorem CB.adN(h:CB g l nx L left old Hs Hc y dv):kz Hc.l old=true:=ej.1 (h.ok _ (ez h.ct)) old (by unfold lB;simp)
theorem CB.more(h:CB g l nx L left old Hs Hc y dv){o:Ob}(c:pj (Hc.l+1) o=eh):CB g l nx L left old Hs (Hc ++ [o]) y dv:=by
 refine⟨jl h.ct,?_,λw o b d=>jl (h.kp w o b d),?_,by rw[aq];have:=h.le;omega⟩
 .rcases h.dv with h1|⟨h1,v,j,i,f,e⟩
  .exact .inl h1
  .grind
 .rw[aq,aT];refine wM (zt U h.ok) λx a=>?_;rw[cp.1 a];exact c
theorem ae4{y:Nat}(a:y<left.l):(left.take (y+1)).map (λk=>gt L k)=(left.take y).map (λk=>gt L k) ++ [gt L (gt left (y:Int))]:=by rw[du,cc a,dx,jU (l:=left) U U];simp
theorem CB.afJ(h:CB g l nx L left old Hs Hc 0 .gV)(b:0<left.l) :
  CB g l nx L left old Hs ((Hc.set 1 (.row 168 0 (lB g l nx (.gR Hc.l 0 36 0 1) old))) ++ [.row 72 0 (iW (gt L (gt left 0)))]) 1 (.gR Hc.l 0 36 0 1):=by
 have hl:=kr h.ct;have e:=ae4 (L:=L) b;refine⟨jl (aN hl),.inr ⟨U,Hc.l,0,h.le,rfl,?_⟩,λw o d a=>jl (by rw[aC (cP a)];exact h.kp w o d a),?_,by rw[aq,av];have:=h.le;omega⟩
 .rw[ao (by rw[av];omega),av,b6,e];simp[jw]
 .rw[aq,av,aT];refine wM (rR (zt U h.ok) (R4 gP (HQ U h.adN))) λx c=>?_;rw[cp.1 c];exact Cr (Fl.cl _)
theorem CB.afK{v a:Nat}(h:CB g l nx L left old Hs Hc y (.gR v a 36 0 y))(n:1<Hs.l)(f:y<left.l)(i:Hs.l<=v)(m:Hc[v]? = bf (.row 72 a (cl iW ((left.take y).map λk=>gt L k)))) :
  CB g l nx L left old Hs ((Hc.set v (.row 72 (a+1) (cl iW ((left.take y).map λk=>gt L k)++iW (gt L (gt left (y:Int)))))).set 1 (.row 168 0 (lB g l nx (.gR v (a+1) 36 0 (y+1)) old))) (y+1) (.gR v (a+1) 36 0 (y+1)):=by
 have hl:=kr h.ct;have d:=kr m;have e:=ae4 (L:=L) f
 have j:cl iW ((left.take y).map λk=>gt L k)++iW (gt L (gt left (y:Int)))=cl iW ((left.take (y+1)).map λk=>gt L k):=by rw[e,<-Da,jw]
 refine⟨aN (by rw[av];exact hl),.inr ⟨U,v,a+1,i,rfl,?_⟩,λw o b c=>?_,?_,by rw[av,av];exact h.le⟩
 .grind
 .rw[aC (cP c),aC (by have:=kr b;omega)];exact h.kp w o b c
 .rw[av,av];refine rR (rR h.ok ?_) (R4 (by simp[d]) h.adN);rw[j];exact Cs _
structure LA(g:gY)(H:gQ)(left iT:List Int)(ld:D):Prop where
 h0:H[0]? = bf (.row 43 0 g.cells)
 pq:H[2]? = bf (.row 37 0 [ld])
 vw:(iT = []/\ld = .gV)\/(iT≠[]/\∃v gn,4<v/\ld = .gR v gn 1 0 iT.l/\H[v]? = bf (.row 3 gn (cl f1 iT)))
 arr:∃zs,iB zs=eh/\H[3]? = bf (.row 3 0 (cl f1 left++zs))
 o9:H[4]? = bf (.row 37 0 [.gR 3 0 1 0 left.l])
theorem LA.mono{H H':gQ}{iT:List Int}{ld:D}(h:LA g H left iT ld)(a:∀w o,H[w]? = bf o->w≠1->H'[w]? = bf o):LA g H' left iT ld:=by
 refine⟨a _ _ h.h0 U,a _ _ h.pq U,?_,?_,a _ _ h.o9 U⟩
 .rcases h.vw with h1|⟨h1,v,f,e,d,c⟩
  .exact .inl h1
  .grind
 .obtain⟨zs,b,h1⟩:=h.arr;exact⟨zs,b,a _ _ h1 U⟩
theorem CB.toLB{iT:List Int}{ld:D}(a:LA g Hs left iT ld)(h:CB g l nx L left old Hs Hc left.l dv):LB g l nx L Hc left iT ld dv:=by
 have h1:=a.mono h.kp;refine⟨h1.h0,⟨_,h.ct⟩,h1.pq,h1.vw,h1.arr,h1.o9,h.ok,?_⟩;rcases h.dv with⟨c,b⟩|⟨c,v,f,b,e,d⟩
 .exact .inr (.inl ⟨by rw[aA.1 c];rfl,b⟩)
 .have hl:=kr a.o9;refine .inr (.inr ⟨v,f,U,by rw[e];simp,?_⟩);rw[d,cY]
theorem nI.ami{H H':gQ}{ck sr n:Nat}{M:Nat->lr}{ow:Nat->Nat×Nat×Nat}{P:Nat->Nat}{Q:Nat->Nat->Nat}(h:nI H ck sr n M ow P Q)(b:∀v o,H[v]? = bf o->ow v≠(5,0,0)->H'[v]? = bf o):nI H' ck sr n M ow P Q:=by
 refine⟨h.fc,h.fs,b _ _ h.row (by rw[h.fs];simp),λj c=>?_,λj c t x d=>?_⟩
 .obtain⟨h1,a⟩:=h.mp j c;exact⟨b _ _ h1 (by rw[a];simp),a⟩
 .obtain⟨h1,a⟩:=h.ls j c t x d;exact⟨b _ _ h1 (by rw[a];simp),a⟩
def Mn(cm:List iF)(k:Int)(V:List gT)(seen:List Nat):List gT:=if seen = []then V else pt V k (pd (sd cm k))
@[simp] theorem aE9(cm:List iF)(k:Int)(V:List gT):Mn cm k V []=V:=if_pos rfl
theorem afd{cm:List iF}{k:Int}{V:List gT}{seen:List Nat}(h:seen≠[]):Mn cm k V seen=pt V k (pd (sd cm k)):=if_neg h
theorem LB.jJ{H:gQ}{iT:List Int}{ld:D}(h:LB g l nx L H left iT ld dv){v:Nat}(a:H[v]? = bf .jJ):4<v/\∀q c n,ld = .gR q c 1 0 n->v≠q:=by
 have key:∀ {w:Nat} {o:Ob},H[w]? = bf o->o≠.jJ->v≠w:=λd f e=>f (by rw[e,d]at a;exact cA a);refine⟨?_,λq c n e=>?_⟩
 .have h0:=key h.h0 gP;obtain⟨_,h1⟩:=h.ct;have h1:=key h1 gP;have i:=key h.pq gP;obtain⟨_,_,b⟩:=h.arr;have b:=key b gP;have j:=key h.o9 gP;omega
 .rcases h.vw with⟨_,h1⟩|⟨_,w,k,_,h1,i⟩
  .grind
  .grind
theorem LB.start{dcl:D}(b:dcl = .sl 36 (L.map iW)\/(L = []/\dcl = .gV)):LB g l nx L [.row 43 0 g.cells,.row 168 0 (lB g l nx dcl .gV),.row 37 0 [.gV],.row 3 0 (cl f1 (upto L.l)),.row 37 0 [.gR 3 0 1 0 L.l]] (upto L.l) [] .gV dcl:=by
 have c:kz 5 dcl=true:=by
  rcases b with rfl|⟨rfl,rfl⟩
  .simp_all
  .rfl
 have d:(upto L.l).map (λk=>gt L k)=L:=by
  refine bH (by simp[ru]) λi h1 e=>?_;rw[br];have:(upto L.l)[i]'(by rw[ru];exact e)=(i:Int):=by simp[upto]
  rw[this,jU U U];simp
 refine⟨rfl,⟨_,rfl⟩,rfl,.inl ⟨rfl,rfl⟩,⟨[],rfl,gP⟩,by rw[ru];rfl,λo a=>?_,?_⟩
 .rcases ak.1 a with rfl|a
  .simp_all
  .rcases ak.1 a with rfl|a
   .exact R4 c rfl
   .rcases ak.1 a with rfl|a
    .rfl
    .rcases ak.1 a with rfl|a
     .simp_all
     .simp_all
 .rw[d];rcases b with h|h
  .exact .inl h
  .exact .inr (.inl h)
theorem LS.toLA{H0 H:gQ}{q rv:Nat}{st:sx}{iT:List Int}{ld:D}(h:LS H0 H q rv st left iT ld)(h0:H0[0]? = bf (.row 43 0 g.cells))(l:1<q):LA g (H.set rv .dead) left iT ld/\jZ (H.set rv .dead).l (H.set rv .dead)/\∀w o,H0[w]? = bf o->(4<w\/w<=1)->w≠rv->w≠q->(H.set rv .dead)[w]? = bf o:=by
 have k:=h.EX;have key:∀ {w:Nat} {o:Ob},H[w]? = bf o->w≠rv->(H.set rv .dead)[w]? = bf o:=λf i=>by rw[aC (cP i)];exact f
 refine⟨⟨key (h.kp 0 _ h0 (.inr U) U U) U,key h.pq U,?_,?_,key h.o9 U⟩,?_,λw o h1 c b a=>key (h.kp w o h1 c b a) b⟩
 .rcases h.vw with h1|⟨h1,v,j,⟨c,_⟩,b,a⟩
  .exact .inl h1
  .exact .inr ⟨h1,v,j,c,b,key a λe=>by rw[e,h.rc]at a;cases a⟩
 .obtain⟨zs,d,h1⟩:=h.arr;exact⟨zs,d,key h1 U⟩
 .rw[av];exact rR h.ok rfl
