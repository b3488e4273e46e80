/- 43 -/
import Derived.Test.YtmehofoficaelaaGreatDoorP42
set_option linter.all false
open List renaming mem_singleton→aE,getElem?_eq_getElem→bf,replicate→cc,length_map→ej,length→List.l
open And renaming intro→cp
open Option renaming some→di
open Bool renaming and_eq_true→dx,true→eh,false→ek
open Int renaming toNat→Int.n
namespace Go.Proofs.YtmehofoficaelaaGreatDoor
open Go Go.AL Classical
set_option maxRecDepth 10000
set_option maxHeartbeats 16000000
attribute [-simp] pQ
def at2{n k:Nat}(h:k<n):(upto k++cc (n-k) 0).set k (k:Int)=upto (k+1)++cc (n-(k+1)) 0:=by rw[Ml,c8 _ _ (by rw[ru];omega),ru,b6,(U:n-k=(n-(k+1))+1),bL];simp
def aeR{H:gQ}{iT left:List Int}{N:Nat}{ld:D}(b:(iT = []/\ld = .gV)\/(iT≠[]/\∃v a,4<v/\ld = .gR v a 1 0 iT.l/\H[v]? = di (.row 3 a (cl f1 iT))))(f:(iT++left).Perm (upto N))(hN:N<=100000)(gW:jZ H.l H) :
  Wf T 67 [ld] H (λd H'=>d = .tup []/\((outs N left = []/\ld = .gV)\/(outs N left≠[]/\∃v a,4<v/\ld = .gR v a 1 0 (outs N left).l/\H'[v]? = di (.row 3 a (cl f1 (outs N left)))))/\H'.l=H.l /\
   (∀w o,H[w]? = di o->(∀a n,ld≠.gR w a 1 0 n)->H'[w]? = di o)/\jZ H'.l H'):=by
 have hs:=arX f;have hl:=congrArg List.l hs;rw[dZ]at hl;rcases b with⟨rfl,rfl⟩|⟨h0,v,a,i,rfl,c⟩
 .refine Wf.mono aaU ?_;rintro _ H' ⟨rfl,rfl⟩;exact⟨rfl,.inl ⟨aA.1 (by rw[<-hl];rfl),rfl⟩,rfl,λw o h _=>h,gW⟩
 .have g:iT.l<=N:=by have:=f.length_eq;rw[aq,ru]at this;omega
  refine f160 (l:=iT) (t:=3) (ay.2 h0) U c ?_;rw[hs,hl];refine⟨rfl,.inr ⟨λe=>h0 (aA.1 (by rw[hl,e];rfl)),v,a,i,rfl,aN (kr c)⟩,av,λw o h1 j=>?_,?_⟩
  .rw[aC (λe=>j a (outs N left).l (by rw[e]))];exact h1
  .rw[av];exact rR gW (Cs _)
def ahX(g:gY)(hg:iE g)(l:List Pos)(hc:qq g l)(h0:0<l.l)(h9:l.l<=1000){L:List Cw}{dcl:D}(hd:dcl = .sl 36 (L.map iW)\/(L = []/\dcl = .gV))
  (hL:∀x∈L,x.ok) (hb:∀x∈L,∀r∈x.c.es,r.2<=4000) (h8:L.l<=100000) :
  Wf T 20 [dG g,iZ l,dcl] [] (Is (.tup (CI (xw (jR g l (iq g l)) l.l (kq l.l) (cs L))))):=by
 have cn:=f52 g hg l hc h0
 have sZ:closed dcl=true:=by
  rcases hd with rfl|⟨rfl,rfl⟩
  .exact F0 L
  .rfl
 have qy:cellsOf dcl=di [dcl]:=by
  rcases hd with rfl|⟨rfl,rfl⟩
  .rfl
  .rfl
 have tK:∀H,od .slice dcl H=di (.i L.l):=λH=>by
  rcases hd with rfl|⟨rfl,rfl⟩
  .simp
  .rfl
 have hj:=λ(H:gQ) (dv:D) (L':List Cw) (old:D) (hd:CV H 1 L' dv) (gW:jZ H.l H) n9 hL hb h8=>aic g hg l hc h0 h9 (H:=H) (ck:=1) (L:=L') (old:=old) (dcl:=dv) hd gW n9 hL hb h8;have cr:=ai5 g hg l hc h0;obtain⟨nx,mZ⟩:∃nx,iq g l=nx:=⟨_,rfl⟩;rw[mZ]at cn hj cr ⊢;refine Yg MC ?_;simp[MC,sZ];refine ik.inl Im rfl rfl (by simp[Im]) rfl ?_;simp[Im,sZ];refine Yc (cn) ?_;simp[sZ,qy];refine ko sZ tK ?_;simp[sZ,tK];refine ko sZ tK ?_;refine gZ.s (by simp[sZ];rfl) ?_;refine gZ.e (0:Int) (λy=>[(1,iZ l),(2,dcl),(3,.ptr 0 0 0),(9,.ptr 1 0 0),(11,.ptr 2 0 0),(12,.ptr 4 0 0),(40,.i L.l),(41,.i y)]) (λy=>[.row 43 0 g.cells,.row 168 0 (lB g l nx dcl .gV),.row 37 0 [.gV],.row 3 0 (cl f1 (upto y.n++cc (L.l-y.n) 0)),.row 37 0 [.gR 3 0 1 0 L.l]]) (λy=>0<=y/\y<=L.l) (λy=>(L.l-y).n) ?_ ?_
 .simp
 rintro y ⟨y0,y1⟩;dsimp only at y0 y1 ⊢
 by_cases hy:y<L.l
 .simp[hy];refine jM hy ?_;obtain⟨k,rfl⟩:∃k:Nat,y=k:=⟨y.n,U⟩;have E:k<L.l:=U;refine⟨by rw[ru];simp;omega,U,U,LJ.i ((k:Int)+1) rfl ?_ rfl rfl nE⟩
  have hp:pt (upto k++cc (L.l-k) 0) (k:Int) (k:Int)=upto (k+1)++cc (L.l-(k+1)) 0:=by have e:=at2 E;rw[bX,if_pos (by simp[ru];omega)]at e;exact e
  simp only[bA,(U:((k:Int)+1).n=k+1),hp]
 have x5:y=L.l:=U;subst x5;simp;refine gU ?_;rw[b6,fr,az];have Ux:=LB.start (g:=g) (l:=l) (nx:=nx) hd;obtain⟨Hi,Uv⟩:∃Hi,[Ob.row 43 0 g.cells,.row 168 0 (lB g l nx dcl .gV),.row 37 0 [.gV],.row 3 0 (cl f1 (upto L.l)),.row 37 0 [.gR 3 0 1 0 L.l]]=Hi:=⟨_,rfl⟩;rw[Uv]at Ux;have Uy:∀k:Int,0<=k->k<L.l->(gt L k).ok/\∀r∈(gt L k).c.es,r.2<=4000:=λk k0 k1=>⟨hL _ (ij k0 k1),hb _ (ij k0 k1)⟩;refine gZ.m ((Hi,[],upto L.l,[],.gV,dcl):gQ×List Nat×List Int×List Int×D×D) (λ_=>[(1,iZ l),(2,dcl),(3,.ptr 0 0 0),(9,.ptr 1 0 0),(11,.ptr 2 0 0),(12,.ptr 4 0 0)]) (λx=>x.1) (λx=>x.2.1) (λx=>LB g l nx L x.1 x.2.2.1 x.2.2.2.1 x.2.2.2.2.1 x.2.2.2.2.2/\(∀v∈x.2.1,x.1[v]? = di .jJ)/\x.2.1.Nodup/\SI (jR g l nx) l.l (kq l.l) (cs L) x.2.2.1 x.2.2.2.1) (λx=>x.2.2.1.l) ?_ ?_ rfl Uv rfl rfl rfl
 rotate_left
 .exact⟨Ux,λv b=>(by cases b),.nil,by rw[<-w5 L];exact SI.start⟩
 clear Ux Uv y0 y1 hy;rintro⟨Hc,ms,left,iT,ld,dv⟩ ⟨X,Vf,B4,hS⟩;dsimp only at X Vf B4 hS ⊢;obtain⟨old,mF⟩:=X.ct;have hr:=hS.rng;have e5:=hS.len;rw[w5]at e5;simp only[w5]at hr
 have xM:∀x∈left.map (λk=>gt L k),x.ok:=λx G=>by obtain⟨k,E,rfl⟩:=aj.1 G;exact(Uy k (hr k E).1 (hr k E).2).1
 have g0:∀x∈left.map (λk=>gt L k),∀r∈x.c.es,r.2<=4000:=λx G=>by obtain⟨k,E,rfl⟩:=aj.1 G;exact(Uy k (hr k E).1 (hr k E).2).2
 have BS:=ag8 hr;have uq:=hj Hc dv (left.map λk=>gt L k) old X.cv X.ok mF xM g0 (by rw[ej];omega);rw[BS]at uq;obtain⟨J,hJ⟩:∃J,o6 (jR g l nx) l.l (kq l.l) (left.map λk=>gt (cs L) k)=J:=⟨_,rfl⟩;rw[hJ]at uq;simp;refine ik.kZ rfl rfl uq ?_;rintro d H' hP;have C:=X.ale hP
 have GC:∀v∈ms,H'[v]? = di .jJ:=λv b=>hP.kp v _ (Vf v b) λe=>by have:=Vf v b;rw[e,mF]at this;cases this
 cases J with
 | v a ls=>
  obtain⟨x,rfl,G⟩:=hP.vd;obtain⟨UF,iA,Q6,uB,iU⟩:=hS.step hJ
  have VQ:cellsOf x=di [x]:=by
   rcases G with rfl|⟨_,v,s,rfl,_⟩
   .cases ls with
    | nil=>rfl
    | cons a r=>rfl
   .rfl
  simp;refine ik.w lO ?_;refine ik.kZ rfl rfl (aid VQ _) ?_;rintro _ H2 ⟨rfl,rfl⟩;simp;refine sT.s lO ?_;refine sT.r (f:=124) (first:=[]) (cap:=[.ptr (H'.l+1) 0 0]) rfl gP rfl rfl ?_;have e1:(H' ++ [Ob.row 89 0 [.i a,x],Ob.row 37 0 [x]]).l+1=H'.l+3:=gP;have Gg:=kr C.o9
  have G1:kz (H'.l+4) x=true:=by
   rcases G with rfl|⟨_,v,s,rfl,b,_⟩
   .exact E0 gP
   .have:=kr b;simp;omega
  obtain⟨q,hq,B9,g1⟩:=C.toLS (R:=[.row 89 0 [.i a,x],.row 37 0 [x],.jJ,.iV 1280 eS .ready]) (j:=3) rfl (λo M=>by
   rcases ak.1 M with rfl|M
   .show((kz (H'.l+4) (.i a))&&((kz (H'.l+4) x)&&eh))=eh;rw[G1];rfl
   .rcases ak.1 M with rfl|M
    .show((kz (H'.l+4) x)&&eh)=eh;rw[G1];rfl
    .rcases ak.1 M with rfl|M
     .rfl
     .rw[aE.1 M];show((kz (H'.l+4) (.ptr 2 0 0))&&((kz (H'.l+4) (.ptr 4 0 0))&&eh))=eh;simp
      omega)
  have n8:q<Hc.l/\1<q:=by
   rcases hq with rfl|⟨s,hq,_⟩
   .exact⟨kr X.pq,U⟩
   .rcases X.vw with⟨_,h⟩|⟨_,v,JG,_,h,b⟩
    .rw[h]at hq;cases hq
    .rw[h]at hq;cases hq;exact⟨kr b,U⟩
  have hHc:=kr X.o9
  have azS:ls.l<=left.l:=by have:=yl left.l ls (uB.imp λh e=>U) Q6;exact this
  show Wf T 124 [.jF ((H' ++ [Ob.row 89 0 [.i a,x],Ob.row 37 0 [x]]).l+1),.ptr (H'.l+1) 0 0] ((H' ++ [Ob.row 89 0 [.i a,x],Ob.row 37 0 [x]]) ++ [.jJ,.iV 1280 eS .ready]) _;rw[e1,aO];refine Wf.mono (air (n:=H'.l+1) (x:=x) g1 Q6 uB U U U gP nE ?_) ?_
  .rcases G with h|⟨_,v,s,h,b,hN⟩
   .exact .inl h
   .have:=kr b;exact .inr ⟨v,s,h,jl b,U,U,U⟩
  rintro _ H3 ⟨wD,Uz,e6⟩;obtain⟨Gl,Kq,Q3⟩:=Uz.toLA (jl C.h0) n8.2
  have Vg:∀v∈(H'.l+2)::ms,(H3.set (H'.l+3) .dead)[v]? = di .jJ:=λv b=>by
   rcases ak.1 b with rfl|b
   .exact Q3 _ _ gP U U U
   .have h1:=GC v b;have h2:=kr h1;obtain⟨K,h4⟩:=C.jJ h1;refine Q3 _ _ (jl h1) (.inl K) U ?_;rcases hq with e|⟨s,e,_⟩
    .omega
    .exact h4 _ _ _ e
  obtain⟨g4,q'⟩:=C.ct;have QT:=Q3 1 _ (jl q') U U U;refine⟨eS,.ready,by rw[e1];exact Uz.rc,?_⟩;have B6:((H'.l+2)::ms).Nodup:=bT.2 ⟨λh=>by have:=kr (GC _ h);omega,B4⟩;obtain⟨Hs,Uw⟩:∃Hs,H3.set (H'.l+3) .dead=Hs:=⟨_,rfl⟩;rw[Uw]at Gl Kq Vg QT;have Y:=QT;unfold lB at Y;simp at Y;show oA (Cu (St.mk _ (H3.set ((H' ++ [Ob.row 89 0 [.i a,x],Ob.row 37 0 [x]]).l+1) .dead) _ _) .ready) _ .mk;rw[e1,Uw];clear Uw Q3 e6 Uz g1;obtain⟨B,nR⟩:∃B,oD left ls=B:=⟨_,rfl⟩;obtain⟨V7,pB⟩:∃V7,(iT++ls.reverse.map λk=>gt left k)=V7:=⟨_,rfl⟩;rw[nR,pB]at Gl UF;rw[nR]at iA;have o2:=Gl.o9;have Gf:∀d sd,(Ob.row 168 0 [.i g.size,.sl 1 (g.next.map fI),dI g.jC,.sl 3 (g.kinds.map Kind.cells),.i g.iw,.b g.me,dN 4 Clause.cells g.clauses,.i g.blocked,.i g.oV,iZ l,.sl 1 (nx.map fN),d,sd]) = .row 168 0 (lB g l nx d sd):=λd sd=>by unfold lB;simp
  have o8:=CB.start (L:=L) (left:=B) QT Kq;simp[Y,o2];refine gZ.s (by simp[Y];rfl) ?_;rw[Gf];refine gZ.kg ((H'.l+2)::ms) ek ((Hs.set 1 (.row 168 0 (lB g l nx .gV g4)),0,.gV):gQ×Nat×D) (λy=>[(1,iZ l),(2,dcl),(3,.ptr 0 0 0),(9,.ptr 1 0 0),(11,.ptr 2 0 0),(12,.ptr 4 0 0),(76,.gR 3 0 1 0 B.l),(77,.i B.l),(78,.i y.2.1)]) (λy=>y.1) (λy=>y.2.1<=B.l/\CB g l nx L B g4 Hs y.1 y.2.1 y.2.2) (λy=>B.l-y.2.1) ?_ gP (by first|rfl|(simp[jw];done)|(simp[*];done)) rfl rfl rfl ?_
  .exact⟨gP,o8⟩
  rintro⟨F,y,dg⟩ ⟨hy,W⟩;dsimp only at hy W ⊢
  by_cases S:y<B.l
  .obtain⟨zs,hz,mD⟩:=Gl.arr;have K:=W.kp 3 _ mD U;obtain⟨k,E⟩:∃k,gt B (y:Int)=k:=⟨_,rfl⟩
   have J5:(cl f1 B++zs)[y]? = di (.i k):=by rw[ah (by rw[ue];omega),yS,aw,bf S,<-E,w8 S];rfl
   have Ke:=UF.rng k (by rw[<-E];exact ij U U);rw[w5]at Ke;obtain⟨pp,vh,pE⟩:=CV.ix (H:=[]) (ck:=0) (hd.elim .inl λh=>.inr (.inl h)) Ke.1 Ke.2;have pE:=λH'=>pE H' λv o b=>by simp at b
   have G:=(Uy k Ke.1 Ke.2).1;have ln:(iW (gt L k)).l=36:=Fl.len _;have o3:(iW (gt L k)).take 36=iW (gt L k):=af U;have vZ:iB (iW (gt L k))=true:=Fl.cl _;have O:=W.ct;unfold lB at O;simp at O;have xe:∀R:gQ,(F++R)[1]? = _:=λR=>jl O;have J6:∀(R:gQ) (h:1<(F++R).l),(F++R)[1]'h=_:=λR h=>cA ((bf h).symm.trans (xe R));have BY:=kr O;have rN:∀(R:gQ) (o:Ob),(F++R).set 1 o=F.set 1 o++R:=λR o=>aP _ _ BY;have e6:=W.le;have lU:=kr Gl.o9;rcases W.dv with⟨rfl,rfl⟩|⟨z5,v,s,b,rfl,GV⟩
   .simp[S,K,J5,vh,pE,xe,J6,O,rN,ln,o3];refine pM (cp S (cp K J5)) (cp vh (cp pE xe)) (cp J6 (cp O rN)) (cp ln o3) ?_;have hF:=(W.more (o:=.row 72 0 (iW (gt L k))) (Cr vZ)).afJ S;rw[rN,aO,aq,aT,show gt B 0=k from E]at hF;rw[Gf];exact LJ.i (_,1,.gR (F.l+1) 0 36 0 1) gP rfl rfl rfl (oO hF)
   .have ju:=kr GV;have nC:v≠1:=U;have xk:∀R:gQ,(F++R)[v]? = _:=λR=>jl GV;have Ed:∀(R:gQ) (o:Ob),(F++R).set v o=F.set v o++R:=λR o=>aP _ _ ju;have gS:∀(o:Ob) (R:gQ),(F.set v o++R)[1]? = _:=λo R=>jl ((aC nC).trans O);have gB:∀(o:Ob) (R:gQ) (h:1<(F.set v o++R).l),(F.set v o++R)[1]'h=_:=λo R h=>cA ((bf h).symm.trans (gS o R));have sS:∀(o o':Ob) (R:gQ),(F.set v o++R).set 1 o'=(F.set v o).set 1 o'++R:=λo o' R=>aP _ _ (by rw[av];exact BY);have iD:(cl iW ((B.take y).map λk=>gt L k)).l=y*36:=by rw[ue,ej,aM];congr 1;omega
    have mF:(cl iW ((B.take y).map λk=>gt L k)).take (y*36)=cl iW ((B.take y).map λk=>gt L k):=af U;have z4:y<=100000:=U;simp[S,K,J5,vh,pE,xe,J6,O,rN,ln,o3,xk,Ed,gS,gB,sS,iD,mF];(with_reducible repeat' first|refine Xk ?_<;>try simp[S,K,J5,vh,pE,xe,J6,O,rN,ln,o3,xk,Ed,gS,gB,sS,iD,mF]|refine Xs ?_ ?_<;>intro h<;>(try intro h')<;>(try simp[h,S,K,J5,vh,pE,xe,J6,O,rN,ln,o3,xk,Ed,gS,gB,sS,iD,mF])<;>try omega|refine Xg ?_|omega);have hF:=(W.afK U S b GV).more (o:=.row 72 0 (iW (gt L k))) (Cr vZ);rw[E]at hF;rw[Gf,<-List.map_take,mF];exact LJ.i (_,y+1,.gR v (s+1) 36 0 (y+1)) gP rfl rfl rfl (oO hF)
  .have x5:y=B.l:=by omega
   subst x5;simp
   exact LM.i (F,(H'.l+2)::ms,B,V7,wD,dg) rfl rfl rfl rfl ⟨iA,W.toLB Gl,λv b=>W.kp v _ (Vg v b) (λe=>by
    have:=Vg v b;rw[e,QT]at this
    cases this),B6,UF⟩
 | none=>
  have b:d=_:=hP.vd;subst b;have hE:=hS.done hJ λa ls h=>by cases h
  have Gg:=kr C.o9;have I:∀R:gQ,(H'++R)[2]? = di (.row 37 0 [ld]):=λR=>jl C.pq;have Vm:jZ (H' ++ [Ob.row 89 0 [.i 0,.gV]]).l (H' ++ [Ob.row 89 0 [.i 0,.gV]]):=Lp C.ok rfl λo M=>by rw[aE.1 M];rfl
  have VM:(iT = []/\ld = .gV)\/(iT≠[]/\∃v s,4<v/\ld = .gR v s 1 0 iT.l/\(H' ++ [Ob.row 89 0 [.i 0,.gV]])[v]? = di (.row 3 s (cl f1 iT))):=by
   rcases C.vw with h|⟨h1,v,s,h2,K,h4⟩
   .exact .inl h
   .exact .inr ⟨h1,v,s,h2,K,jl h4⟩
  have KF:=aeR VM (N:=L.l) (left:=left) (by have:=hS.pm;rwa [w5]at this) h8 Vm;simp[I];refine jM I ?_;refine ik.w lO ?_;refine ik.kZ rfl rfl KF ?_;rintro _ A ⟨rfl,GZ,e8,BZ,p4⟩;have B6:∀v∈ms,A[v]? = di .jJ:=λv b=>BZ v _ (jl (GC v b)) λs n e=>(C.jJ (GC v b)).2 _ _ _ e rfl
  have Gz:A[2]? = di (.row 37 0 [ld]):=by
   refine BZ 2 _ (I _) λs n e=>?_;rcases GZ with⟨_,h⟩|⟨_,v,JG,h1,h,_⟩
   .rw[h]at e;cases e
   .rw[h]at e;cases e;omega
  obtain⟨sr,g6,vp⟩:=hP.ct;obtain⟨ow,P,Q,vp,e4⟩:=vp rfl
  have g5:∀w:Nat,w<5->∀s n,ld≠.gR w s 1 0 n:=λw hw s n e=>by
   rcases GZ with⟨_,h⟩|⟨_,v,JG,h1,h,_⟩
   .rw[h]at e;cases e
   .rw[h]at e;cases e;omega
  have p5:=BZ 1 _ (jl g6) (g5 1 U);have p2:=BZ 0 _ (jl C.h0) (g5 0 U)
  have Vy:=(vp.app [Ob.row 89 0 [.i 0,.gV]]).ami (H':=A) λv o b h5=>BZ v o b λs n e=>by
   rcases X.vw with⟨_,h⟩|⟨_,w,JG,h1,h,h2⟩
   .rw[h]at e;cases e
   .rw[h]at e;cases e;exact h5 (e4 _ _ h2 U)
  clear vp e4 g6;obtain⟨cm,UO⟩:∃cm,(left.map λk=>gt (cs L) k)=cm:=⟨_,rfl⟩;rw[UO]at hJ Vy;have Uk:=aco hJ;have p':=@alc _ _ _ _ hJ
  have Kt:∀j:Int,0<=j->j<l.l->(iH cm j).l=1:=λj j0 j1=>by
   obtain⟨q1,q2⟩:=Uk.2 j j0 j1;have:=JI (cl:=cm) (i:=j);rw[q2]at this;have K:¬ 1<(iH cm j).l:=λh=>by cases this.1 h
   have h4:(iH cm j).l≠0:=λh=>q1 (Qy.1 h);omega
  have Y:=p5;unfold lB at Y;simp at Y;have sY:∀R:gQ,(A++R)[1]? = _:=λR=>jl Y;have f':∀(R:gQ) (h:1<(A++R).l),(A++R)[1]'h=_:=λR h=>cA ((bf h).symm.trans (sY R));simp[Gz,sY,f'];refine kf Gz sY f' ?_;refine gZ.kg ms ek ((0,cc l.l (0,0),[]):Int×List gT×gQ) (λy=>[(1,iZ l),(3,.ptr 0 0 0),(11,.ptr 2 0 0),(20,.gR A.l 0 2 0 l.l),(108,.gR sr 0 1 0 l.l),(109,.i l.l),(110,.i y.1)]) (λy=>A++(.row 86 0 (AL.cl fS y.2.1)::y.2.2)) (λy=>(0<=y.1/\y.1<=l.l)/\y.2.1.l=l.l/\∀j:Int,0<=j->j<y.1->gt y.2.1 j=pd (sd cm j)) (λy=>(l.l-y.1).n) ?_ gP (by first|rfl|(simp[jw];done)|(simp[*];done)) rfl rfl rfl ?_
  .exact⟨gP,gP,λj j0 j1=>absurd j1 iv⟩
  rintro⟨k,V,R⟩ ⟨⟨k0,k1⟩,hV,BO⟩;dsimp only at k0 k1 hV BO ⊢;have vm:∀R:gQ,(A++R)[sr]? = di (.row 170 0 ((List.range l.l).map λj=>D.im (P j))):=λR=>jl Vy.row
  by_cases E:k<l.l
  .obtain⟨p1,_⟩:=Vy.mp k.n U;rw[(U:((k.n:Nat):Int)=k)]at p1;obtain⟨p,pF⟩:∃p,P k.n=p:=⟨_,rfl⟩;obtain⟨q,D'⟩:∃q,Q k.n=q:=⟨_,rfl⟩;rw[pF,D']at p1;have uu:∀R:gQ,(A++R)[p]? = di (.map KS (jN q 0 (iH cm k))):=λR=>jl p1;have h1:=Kt k k0 E;simp[E,vm,pF,uu,k0];refine kf (cp E vm) (cp pF uu) k0 ?_;refine gZ.kg ms ek (([],[]):List Nat×gQ) (λz=>[(1,iZ l),(3,.ptr 0 0 0),(11,.ptr 2 0 0),(20,.gR A.l 0 2 0 l.l),(21,.i k),(108,.gR sr 0 1 0 l.l),(109,.i l.l),(110,.i k),(116,.ptr (A.l+(R.l+1)) 0 0)]) (λz=>A++(.row 86 0 (AL.cl fS (Mn cm k V z.1))::(R ++ .jO (.im p) (iH cm k).l z.1::z.2))) (λz=>z.1.Nodup/\∀t∈z.1,t<(iH cm k).l) (λz=>(iH cm k).l-z.1.l) ?_ gP (by first|rfl|(simp[jw];done)|(simp[*];done)) rfl rfl rfl ?_
   .exact⟨.nil,λ_ h=>(by cases h)⟩
   rintro⟨seen,Z⟩ ⟨lJ,iA⟩;dsimp only at lJ iA ⊢;simp;refine ub.at (m:=p) (since:=(iH cm k).l) (seen:=seen) (kk:=KS) (es:=jN q 0 (iH cm k)) gP (by simp[uu]) gP (λjm=>?_) λt kv dv he hi=>?_
   .have jm:∀t,t<(iH cm k).l->t∈seen:=by simpa using jm
    have qh:seen≠[]:=λe=>by have:=jm 0 U;rw[e]at this;cases this
    rw[afd qh];simp;refine gU ?_;refine LJ.i (k+1,pt V k (pd (sd cm k)),R ++ .jO (.im p) (iH cm k).l seen::Z) gP gP rfl rfl ?_;refine⟨iv,jc,by rw[jy k0 U];exact hV,λi' h0 h1=>?_⟩;dsimp only at h1 ⊢;rw[mY k0 U h0]
    by_cases e:i'=k
    .rw[if_pos e,e]
    .rw[if_neg e];exact BO i' h0 U
   .rw[xK]at he;obtain⟨y,wz,KN⟩:=ar.1 he;cases KN;have rh:=LV lJ iA (ae.1 wz).1 hi;have kR:(jN q 0 (iH cm k))[t]? = di (mH y.1,oI (q t) y.2):=by rw[xK,wz];simp
    have e:(A++(Ob.row 86 0 (AL.cl fS (Mn cm k V seen))::(R++Ob.jO (.im p) (iH cm k).l seen::Z))).set (A.l+(R.l+1)) (.jO (.im p) (iH cm k).l (seen ++ [t]))=A++(Ob.row 86 0 (AL.cl fS (Mn cm k V seen))::(R++Ob.jO (.im p) (iH cm k).l (seen ++ [t])::Z)):=gP;rw[e]
    have xh:(iH cm k).l-(seen ++ [t]).l<(iH cm k).l-seen.l:=by have:=rh.2.2;rw[aq,aT]at this ⊢;omega
    have VE:t=0:=by have:=(ae.1 wz).1;omega
    have wy:seen = []:=a7.2 λu hu=>by have:=iA u hu;rw[(U:u=t)]at hu;exact hi hu
    have hy:y.1=pd (sd cm k):=abx (by
     obtain⟨z,hz⟩:=gE.1 h1;rw[hz,VE]at wz;cases wz
     exact hz)
    subst wy;obtain⟨⟨r1,r2⟩,ls⟩:=y;dsimp only at hy kR;have Kw:=pN (l:=V) (n:=k) r1 r2;simp[uu,kR,h1,Kw];refine pM uu kR h1 Kw ?_;refine LJ.i ([] ++ [t],Z ++ [.row 86 0 [.i r1,.i r2]]) gP (by rw[afd gP,<-hy];simp[h1]) rfl rfl ⟨xh,rh.1,rh.2.1⟩
  .have xU:k=l.l:=by omega
   subst xU;have g7:cm=cs (left.map λk=>gt L k):=by rw[<-UO,BS]
   have UA:∀x∈left.map (λk=>gt L k),x.full:=λx G=>⟨xM x G,λ_=>by
    have:=Uk.1 x.c (by rw[g7];exact aj.2 ⟨x,G,rfl⟩);unfold kq at this;rw[dx]at this
    exact(L8 this.1).2.2⟩
   have BP:V=AZ (cs L) left l.l:=BE (by rw[Mc];exact hV) λj j0 j1=>by rw[BO j j0 U,aeU _ _ j0 U,UO]
   have JW:∀j:Int,0<=j->j<V.l->0<=(gt V j).2/\(gt V j).2<=4000:=λj j0 j1=>by
    rw[hV]at j1;rw[BO j j0 j1];have hm:=F' (Uk.2 j j0 j1).1;have h5:=p' j0 j1 _ hm;refine⟨?_,?_⟩
    .unfold mJ at h5;simp only[decide_eq_true_eq]at h5;rcases h5 with e|e
     .rw[e];decide
     .exact e.2
    .obtain⟨c,hc,h6,h7⟩:=uD.1 hm;rw[<-h7];rw[g7]at hc;obtain⟨x,G,rfl⟩:=aj.1 hc;obtain⟨_,i0,i1⟩:=Cw.abn (UA x G) h6;exact g0 x G _ (ij U i1)
   have Z1:=cr V hV JW;rw[BP]at Z1;have p0:∀R:gQ,(A++R)[0]? = di (.row 43 0 g.cells):=λR=>jl p2;simp[p0];refine ik.rq rfl rfl Z1 (by simp[<-BP,hV]) (λ_=>by simp[flat,w7]) (λ_=>gP) ?_;rintro n hn;have I:∀R:gQ,(A++R)[2]? = di (.row 37 0 [ld]):=λR=>jl Gz;obtain⟨Hk,k1,k2,k3⟩:=V3 ms (A++Ob.row 86 0 (AL.cl fS V)::R) B4 λv b=>jl (B6 v b)
   have rK:∀d,leave 0 0 Hk d=(ib (λ_=>none) Hk 40 d,[]):=λd=>V6 λe=>by rw[e,aq]at k2;simp at k2
   have o1:Hk[A.l]? = di (.row 86 0 (AL.cl fS V)):=by rw[k3 _ λh=>by have:=kr (B6 _ h);omega];simp
   have Q5:ib (λ_=>none) Hk 39 ld=dN 1 f1 (outs L.l left):=by
    rcases GZ with⟨e,rfl⟩|⟨h1,v,s,_,rfl,b⟩
    .rw[e];rfl
    .have KL:=(k3 v λh=>by rw[B6 v h]at b;cases b).trans (jl b);simp[KL]
     cases hz:outs L.l left with
     | nil=>exact absurd hz h1
     | cons a r=>rfl
   by_cases vf:n<0
   .have hR:xw (jR g l nx) l.l (kq l.l) (cs L)=(di (AZ (cs L) left l.l),outs L.l left):=by unfold xw;rw[hE,if_pos ⟨rfl,hn.1 vf⟩,w5]
    rw[hR,<-BP];have D4:¬ 0<=n:=U;simp[D4,I];refine ko D4 I ?_;simp[k1,rK,o1,Q5,CI,<-hV]
   .have hR:xw (jR g l nx) l.l (kq l.l) (cs L)=(none,outs L.l left):=by unfold xw;rw[hE,if_neg (λh=>vf (hn.2 h.2)),w5]
    rw[hR];have D4:0<=n:=U;simp[D4,I];refine ko D4 I ?_;simp[k1,rK,Q5,CI]
 | De=>
  have b:d=_:=hP.vd;subst b;have hE:=hS.done hJ λa ls h=>by cases h
  have Gg:=kr C.o9;have I:∀R:gQ,(H'++R)[2]? = di (.row 37 0 [ld]):=λR=>jl C.pq;have Vm:jZ (H' ++ [Ob.row 89 0 [.i 0,.gV]]).l (H' ++ [Ob.row 89 0 [.i 0,.gV]]):=Lp C.ok rfl λo M=>by rw[aE.1 M];rfl
  have VM:(iT = []/\ld = .gV)\/(iT≠[]/\∃v s,4<v/\ld = .gR v s 1 0 iT.l/\(H' ++ [Ob.row 89 0 [.i 0,.gV]])[v]? = di (.row 3 s (cl f1 iT))):=by
   rcases C.vw with h|⟨h1,v,s,h2,K,h4⟩
   .exact .inl h
   .exact .inr ⟨h1,v,s,h2,K,jl h4⟩
  have KF:=aeR VM (N:=L.l) (left:=left) (by have:=hS.pm;rwa [w5]at this) h8 Vm;simp[I];refine jM I ?_;refine ik.w lO ?_;refine ik.kZ rfl rfl KF ?_;rintro _ A ⟨rfl,GZ,e8,BZ,p4⟩;have B6:∀v∈ms,A[v]? = di .jJ:=λv b=>BZ v _ (jl (GC v b)) λs n e=>(C.jJ (GC v b)).2 _ _ _ e rfl
  have Gz:A[2]? = di (.row 37 0 [ld]):=by
   refine BZ 2 _ (I _) λs n e=>?_;rcases GZ with⟨_,h⟩|⟨_,v,JG,h1,h,_⟩
   .rw[h]at e;cases e
   .rw[h]at e;cases e;omega
  obtain⟨Hk,k1,k2,k3⟩:=V3 ms A B4 B6;simp[Gz];refine jM Gz ?_;simp[k1]
  have rK:∀d,leave 0 0 Hk d=(ib (λ_=>none) Hk 40 d,[]):=λd=>V6 λe=>by rw[e,e8]at k2;simp at k2
  have hR:xw (jR g l nx) l.l (kq l.l) (cs L)=(none,outs L.l left):=by unfold xw;rw[hE,if_neg (λh=>by cases h.1),w5]
  rw[hR];rcases GZ with⟨e,rfl⟩|⟨h1,v,s,_,rfl,b⟩
  .simp[rK,CI,e];rfl
  .have KL:=(k3 v λh=>by rw[B6 v h]at b;cases b).trans b;simp[rK,CI,KL]
   cases hz:outs L.l left with
   | nil=>exact absurd hz h1
   | cons a r=>rfl
end Go.Proofs.YtmehofoficaelaaGreatDoor
namespace Go.Proofs.YtmehofoficaelaaGreatDoor
open Go Go.AL Classical
theorem kE.mJ{A:mM}{v:List gT}{i:Int}(a:A.ov i=eh->1<=A.rs i/\A.rs i<=3)(h:kE A v i):mJ (gt v i)=true:=by
 unfold Proofs.YtmehofoficaelaaGreatDoor.mJ;rw[decide_eq_true_iff];rcases h with⟨o,e⟩|⟨_,⟨n,h1,e,_⟩|⟨n,h1,e,_⟩|⟨e,_⟩⟩
 .grind
 .grind
 .grind
 .exact .inl e
def abZ{V:List gT}{c:iF}:s9 V c=eh↔zH V (kq V.l) c:=by
 unfold s9 zH;rw[dx,decide_eq_true_iff];refine and_congr_right λ_=>⟨λh i hi=>?_,λh i i0 a=>h i ?_⟩
 .unfold kN at hi;rw[decide_eq_true_iff]at hi;exact h i hi.1 hi.2
 .unfold kN;exact decide_eq_true ⟨i0,a⟩
def afL{n:Int}{c:iF}(h:kq n c=eh)(i:Int)(a:kN c i=eh):0<=i/\i<n:=by unfold kq at h;rw[dx,decide_eq_true_iff]at h;have:=L8 h.1;unfold kN at a;rw[decide_eq_true_iff]at a;omega
structure IL(A:mM)(n:Nat)(V:List gT):Prop where
 len:V.l=n
 iG:∀i:Int,0<=i->i<n->∀k∈gt A.nx i,0<=k/\k<n
 hV:∀i:Int,0<=i->i<n->kE A V i
 tO:∀i:Int,0<=i->i<n->mJ (gt V i)=eh
section
variable{A:mM}{n:Nat}{V:List gT}{cl:List iF}
theorem IL.uniq(h:IL A n V){v:List gT}(hl:v.l=n)(a:∀k:Int,0<=k->k<n->kE A v k):v=V:=
 BE (hl.trans h.len.symm) λj j0 j1=>acR (S:=λi=>0<=i/\i<n) (λi hi k b=>h.iG i hi.1 hi.2 k b) (λi hi=>a i hi.1 hi.2) (λi hi=>h.hV i hi.1 hi.2) j ⟨j0,U⟩
theorem atI(h:IL A n V){ad:iF->Bool}{v:List gT}{o:List Int}(hs:xw A n ad cl=(di v,o)):v=V:=by
 unfold xw at hs;split at hs
 .rename_i a;cases hs;exact h.uniq (Mc _ _ _) a.2
 .cases hs
theorem atH(h:IL A n V)(d:∀i:Int,0<=i->i<n->∃c∈cl,s9 V c=eh/\kN c i=eh):xw A n (kq n) cl=(di V,(upto cl.l).filter λk => !s9 V (gt cl k)):=by
 have b:=h.len;subst b
 obtain⟨L,h1,o,_,l⟩:=aeT h.iG h.hV h.tO (λc d i hi=>afL d i hi) (cl.l+1) (upto cl.l) (by rw[ru];omega) (λk a=>l8.1 a) (λi i0 f=>by
  obtain⟨c,q1,q2,q3⟩:=d i i0 f;obtain⟨k,k0,k1,rfl⟩:=th.1 q1
  exact⟨k,l8.2 ⟨k0,k1⟩,abZ.1 q2,q3⟩) (λk k0 k1 _=>l8.2 ⟨k0,k1⟩)
 have g:E9 A V.l (kq V.l) cl=(L,.none):=h1
 have p:AZ cl L V.l=V:=BE (Mc _ _ _) λj j0 j1=>by rw[Mc]at j1;rw[aeU _ _ j0 j1,l j j0 j1]
 unfold xw;rw[g,p,if_pos ⟨rfl,h.hV⟩];congr 1;refine fO λk a=>?_;rw[l8]at a;have:=o k;rw[<-abZ]at this
 cases e:s9 V (gt cl k)with
 | true=>
  rw[e]at this;simp[this.2 ⟨a,rfl⟩]
 | false=>
  rw[e]at this;have m:k ∉ L:=λa=>by have:=(this.1 a).2;cases this
  simp[m]
end
set_option maxRecDepth 10000
set_option maxHeartbeats 8000000
def ai6(g:gY)(hg:iE g)(p:Pos)(v:ja g p):Wf T 51 [dG g,dP p,.i 40] [] (Ey (λx:Bool×List Pos=>.agg [if x.1 then iZ x.2 else .gV,.i (if x.1 then 0 else 2)]) (λx=>x.1=eh->Mu g x.2/\x.2.l<=40)):=by
 have L:=v.small hg;refine Yz IE (lV 62 [6,7] (jY 34 [5] IE.body)) ?_;simp[IE,jY,lV,po,py,pY,nQ];refine gZ.fz [3,4] rfl ?_;refine gZ.e (([p],[p]):List Pos×List Pos) (λy=>[(2,.i 40),(3,.ptr 0 0 0),(6,.ptr 2 0 0),(7,iZ y.1),(8,iZ y.2)]) (λy=>[.row 43 0 g.cells,.row 46 0 p.cells,.row 123 0 [.gV,.i 0],.dead,.dead]) (λy=>Pu g p y.1 y.2/\y.1.l<=40) (λy=>(81-y.1.l)*2+(if y.2 = []then 0 else 1)) ?_ ?_
 .refine⟨⟨λi h1 w=>by simp at w;omega,by simpa using v,gP,gP,gP,gP,gP⟩,gP⟩
 rintro⟨c,last⟩ ⟨d,z⟩;have u:=d.len;have C:=d.alB;dsimp only at d u C z ⊢;simp;refine ma ?_ ?_<;>intro h
 .refine gZ.e ((0,0,[]):Int×Nat×List Pos) (λy=>[(2,.i 40),(3,.ptr 0 0 0),(6,.ptr 2 0 0),(7,iZ c),(8,iZ last),(9,.gR 5 y.2.1 5 0 y.2.2.l),(10,.i y.1)]) (λy=>[.row 43 0 g.cells,.row 46 0 p.cells,.row 123 0 [.gV,.i 0],.dead,.dead,.row 46 y.2.1 (cl Pos.cells y.2.2)]) (λy=>0<=y.1/\y.1<=last.l/\(∀m,m∈y.2.2↔∃q∈last.take y.1.n,sP g q m)/\y.2.2.l<=y.1.n*4000000000) (λy=>last.l-y.1.n) ?_ ?_
  .simp
  rintro⟨i,I,nx⟩ ⟨i0,F,o,E⟩;dsimp only at i0 F o E ⊢;simp;refine ma ?_ ?_<;>intro h
  .have f:=d.ok _ (d.sub _ (ij i0 ‹_›));have H:=Hm hg f;refine Yt (f60 g hg _ f) ?_;simp;refine gU ?_;refine LJ.e (i+1,I+1,nx++kd g (gt last i)) ?_;dsimp only;refine⟨U,U,U,λm=>?_,?_⟩
   .rw[ai,o,ED,jP i0 ‹_›];simp only[ai,aE];constructor
    .grind
    .grind
   .grind
  .rw[nf U]at o
   have A:∀q∈nx,ja g q:=λq f=>by obtain⟨r,G,n⟩:=(o q).1 f;exact WG hg (d.ok r (d.sub r G)) n
   refine Yc (aaV nx U (λq f=>(A q f).small hg)) ?_;simp;have K:=SC nx;have B:=mr.nodup (E5 nx);have t:∀q,q∈lY nx↔∃r∈last,sP g r q:=λq=>by rw[yx,o]
   have s:∀q∈lY nx,Small q:=λq f=>(A q (yx.1 f)).small hg;generalize hN:lY nx=N at *;refine gZ.e ((0,0,[]):Int×Nat×List Pos) (λy=>[(2,.i 40),(3,.ptr 0 0 0),(6,.ptr 2 0 0),(7,iZ c),(8,.gR 6 y.2.1 5 0 y.2.2.l),(9,iZ N),(11,.i y.1)]) (λy=>[.row 43 0 g.cells,.row 46 0 p.cells,.row 123 0 [.gV,.i 0],.dead,.dead,.dead,.row 46 y.2.1 (cl Pos.cells y.2.2)]) (λy=>0<=y.1/\y.1<=N.l/\(∀m,m∈y.2.2↔m∈N.take y.1.n/\m ∉ c)/\y.2.2.Nodup/\y.2.2.l<=y.1.n) (λy=>N.l-y.1.n) ?_ ?_
   .simp
   rintro⟨j,gm,l⟩ ⟨j0,j1,j2,j3,j4⟩;dsimp only at j0 j1 j2 j3 j4 ⊢;simp;refine ma ?_ ?_<;>intro h
   .refine Yc (f27 c (gt N j) U (λq f=>(d.ok q f).small hg) (s _ (ij j0 ‹_›)) d.AY) ?_;simp
    have O:tH c (gt N j)<0↔gt N j ∉ c:=by
     by_cases n:gt N j∈c
     .have:=JE n;simp[n];omega
     .rw[aa8 n];simp[n]
    refine ma ?_ ?_<;>intro h
    .refine LJ.e (j+1,gm+1,l ++ [gt N j]) ?_;dsimp only
     have S:gt N j ∉ l:=λn=>by have:=(j2 _).1 n;obtain⟨k,M,e⟩:=ew.1 this.1;refine bV.1 B k j.n U U U ?_;rw[e,jU j0 ‹_›]
     refine⟨U,U,U,λm=>?_,a8.2 ⟨j3,gP,λa Q b P e=>?_⟩,iz⟩
     .rw[ai,j2,jP j0 ‹_›,ai,aE];constructor
      .grind
      .grind
     .grind
    .refine LJ.e (j+1,gm,l) ?_;dsimp only;refine⟨U,U,U,λm=>?_,j3,U⟩;rw[j2,jP j0 ‹_›,ai,aE];constructor
     .grind
     .grind
   .rw[nf U]at j2;refine Yc (aaV (c++l) iz (λq f=>(ai.1 f).elim (λh=>(d.ok q h).small hg) λh=>s q ((j2 q).1 h).1)) ?_;simp;have D:=d.step hg (next:=N) (last':=l) (all':=lY (c++l)) t j2 j3 (E5 _) (λq=>by rw[yx,ai]);refine ma ?_ ?_<;>intro h
    .exact Ey.i (ek,[]) gP rfl (λh=>by cases h)
    .obtain⟨h1,w,R⟩:=D U;refine LJ.e (lY (c++l),l) ?_;dsimp only;refine⟨?_,h1,by simp at *;omega⟩;have J:last≠[]:=λe=>by subst e;simp at *
     rw[if_neg J]
     by_cases e:l = []
     .grind
     .grind
 .refine Ey.i (eh,c) gP rfl λ_=>⟨⟨d.AY,d.ok,λq f=>d.cl q f ?_,?_⟩,z⟩
  .grind
  .have:=dz d.has;exact⟨this,u⟩
def aiX(x:sw)(c:Ik x):Wf T 13 [.agg x.cells,.i 40] [] (Ey (λy:gY×Pos×Bool×List Pos=>.agg (y.1.cells++(y.2.1.cells ++ [if y.2.2.1 then iZ y.2.2.2 else .gV,.b y.2.2.1]))) λy=>iE y.1/\ja y.1 y.2.1/\(y.2.2.1=eh->Mu y.1 y.2.2.2/\y.2.2.2.l<=40)):=by
 have hl:x.l.l=18:=c.len;have f:x.cells.l=31:=by simp[sw.cells,Raw.cells,c.len]
 have d:x.cells.take 31=x.cells:=af U;refine Yg Ng ?_;simp[Ng,hl];refine⟨U,?_⟩;rw[d];refine ik.q rfl rfl (f32 x c) (by simpa using ZO x) (λ_=>gP) ?_;rintro⟨g,p⟩ ⟨hg,a⟩;dsimp only at hg a;simp;refine ik.q rfl rfl (ai6 g hg p a) gP (λy=>by obtain⟨b,l⟩:=y;cases b<;>simp) ?_;intro y e;simp;obtain⟨b,l⟩:=y;cases b
 .simp;exact Ey.i (g,p,ek,l) rfl rfl ⟨hg,a,λh=>by cases h⟩
 .simp;exact Ey.i (g,p,eh,l) rfl rfl ⟨hg,a,e⟩
structure XL(x:Cw):Prop where
 ok:x.ok
 b:∀r∈x.c.es,r.2<=4000
theorem afv{w:Wk}{v:List gT}{lo:Int}{r:gT}:∀ {n:Nat},r∈uL w v lo n->0<=lo->lo+n<=v.l->r∈v\/r=(w.nY,w.nN)
 | 0,h,_,_=>by cases h
 | n+1,h,h0,h1=>by
  rcases ai.1 h with h|h
  .exact afv h h0 U
  .rw[aE.1 h,Mr];split
   .exact .inr rfl
   .exact .inl (ij U U)
def aua{w:Wk}(b:w.ok){who:Int}{p:gT}{v:List gT}(a:0<=p.1/\p.1<p.2/\p.2<=v.l)(e:v.l<=64)(c:∀r∈v,r.2<=4000) :
  XL (tt w who p v)/\((tt w who p v).em=ek/\0<=(tt w who p v).c.lo/\(tt w who p v).c.lo<(tt w who p v).c.hi/\(tt w who p v).c.hi<=v.l/\((tt w who p v).c.es.l:Int)=(tt w who p v).c.hi-(tt w who p v).c.lo/\(tt w who p v).c.root=lN (tt w who p v).c.es):=by
 have hl:=CO w v p.1 (p.2-p.1).n;unfold tt;refine⟨⟨⟨(λh=>by cases h),?_,AR _,?_,?_⟩,λr d=>?_⟩,rfl,?_,?_,?_,?_,rfl⟩
 .dsimp only;omega
 .dsimp only;omega
 .dsimp only;omega
 .rcases afv d a.1 U with h|rfl
  .exact c r h
  .have:=b.nN;dsimp only;omega
 .exact a.1
 .exact a.2.1
 .exact a.2.2
 .dsimp only;omega
theorem aeo{ws:List Wk}{v P:List gT}{t:Int}(b:∀w∈ws,w.ok)(hP:∀p∈P,0<=p.1/\p.1<p.2/\p.2<=v.l)(e:0<P.l)(d:v.l<=64)(c:∀r∈v,r.2<=4000) :
  ∀n,n<=ws.l->∀x∈yq ws v P t n,XL x/\(eh=eh->x.em=ek/\0<=x.c.lo/\x.c.lo<x.c.hi/\x.c.hi<=v.l/\(x.c.es.l:Int)=x.c.hi-x.c.lo/\x.c.root=lN x.c.es)
 | 0,_,x,a=>by cases a
 | n+1,hn,x,a=>by
  rcases ai.1 a with a|a
  .exact aeo b hP e d c n U x a
  .split at a
   .rw[aE.1 a];have:=aua (who:=n) (b (gt ws n) (ij U U)) (hP (gt P ((n:Int) % P.l)) (ij (bZ _ U) (bR _ U))) d c;exact⟨this.1,λ_=>this.2⟩
   .cases a
set_option maxHeartbeats 4000000
section
variable{g:gY}{l:List Pos}
structure KI(g:gY)(l:List Pos)(n:Int)(v:List Kn):Prop where
 len:v.l=l.l
 fi:FI g l (iq g l) (upto l.l) [] n (kV v) (kB v)
