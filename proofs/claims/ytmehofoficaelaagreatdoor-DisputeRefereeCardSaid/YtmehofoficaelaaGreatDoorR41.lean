/- Part 41 of DisputeReferee. -/
import Derived.Test.YtmehofoficaelaaGreatDoorR40
set_option linter.all false
namespace Go.Proofs.YtmehofoficaelaaGreatDoor
open Go Go.AL Classical
set_option maxRecDepth 10000
set_option maxHeartbeats 16000000
attribute [-simp] rQ
def mZ(g:fH)(l:List Pos)(nx:List (List Int))(a sd:D):List D:=g.cells ++ [gJ l,.sl 1 (nx.map fN),a,sd]
theorem rE{H:U}{v:Nat}{o:Ob}(h:H[v]? = some o):H.set v o=H:=by obtain⟨h1,a⟩:=ae.1 h;rw[<-a,dT]
theorem acQ{p:gp->Bool}{s:gp->fE}{cl:List gp}{n t:Nat}{r:fE}{x:List Int}(h:ng r (oy p s cl n)=some (t,x)):x.length<=n:=by obtain⟨h1,_⟩:=yw (k:=0) h;rw[(Ou (List.mem_of_getElem? h1)).1];exact A8 _ _ ((AX _ _ _).imp λh e=>by omega) λk a=>(yY.1 a).1
theorem acR{p:gp->Bool}{s:gp->fE}{cl:List gp}{n t:Nat}{r:fE}{x:List Int}(h:ng r (oy p s cl n)=some (t,x)):x≠[]:=by obtain⟨h1,_⟩:=yw (k:=0) h;exact(Ou (List.mem_of_getElem? h1)).2
theorem UF{L:List Cw}{k:Int}(k0:0<=k)(a:k<L.length):gt (cs L) k=(gt L k).c:=by unfold cs;rw[jc k0 (by rw[List.length_map];exact a),jc k0 a,List.getElem_map]
theorem Gg{n t g:Nat}{cs:List D}(h:gh cs=true):n9 n (.row t g cs)=true:=List.all_eq_true.2 λd a=>MR (lS h d a)
def CV(H:U)(ck:Nat)(L:List Cw)(a:D):Prop:=
 a = .sl 36 (L.map gP)\/(L = []/\a = .fJ)\/∃v g,v≠ck/\a = .fy v g 36 0 L.length/\H[v]? = some (.row 72 g (cl gP L))
theorem CV.len{H:U}{ck:Nat}{L:List Cw}{a:D}(h:CV H ck L a)(H':U):mM .slice a H'=some (.i L.length):=by
 rcases h with rfl|⟨rfl,rfl⟩|⟨v,g,_,rfl,_⟩
 .simp
 .rfl
 .simp
theorem CV.ix{H:U}{ck:Nat}{L:List Cw}{c:D}(h:CV H ck L c){k:Int}(k0:0<=k)(a:k<L.length) :
  ∃p,ma 36 c (.i k)=some p/\∀H':U,(∀(v:Nat) (o:Ob),H[v]? = some o->v≠ck->H'[v]? = some o)->uW 36 p H'=some (.agg ((gP (gt L k)).take 36)):=by
 have b:(gP (gt L k)).length=36:=Fl.len _;rcases h with rfl|⟨rfl,rfl⟩|⟨v,g,hc,rfl,hv⟩
 .refine⟨.fV (gP (gt L k)),?_,λH' _=>?_⟩
  .unfold ma;dsimp only;rw[if_pos ⟨rfl,k0,by rw[List.length_map];exact a⟩,jc k0 a];simp[List.getD,List.getElem?_eq_getElem (show k.toNat<L.length by omega)]
  .simp[b]
 .simp at a;omega
 .refine⟨.ptr v g (k.toNat*36),?_,λH' d=>?_⟩
  .simp[k0,a]
  .have:=d v _ hv hc;have e:k.toNat<L.length:=by omega
   simp[this,e,b]
theorem CV.app{H:U}{ck:Nat}{L:List Cw}{a:D}(h:CV H ck L a)(G:U):CV (H++G) ck L a:=by
 rcases h with h|h|⟨v,g,c,e,b⟩
 .exact .inl h
 .exact .inr (.inl h)
 .exact .inr (.inr ⟨v,g,c,e,kT b⟩)
theorem abz{H:U}{ck:Nat}{g:fH}{l:List Pos}{nx:List (List Int)}{L:List Cw}{old q:D}(hd:CV H ck L q)(fG:jO H.length H)(K:H[ck]? = some (.row 168 0 (mZ g l nx q old)))(hL:∀x∈L,x.ok)(h8:L.length<=100000)(h9:l.length<=1000)(h0:0<l.length) :
  Wf T 116 [.ptr ck 0 0] H (λd H'=>∃ow P Q,HI H H' ck H.length l.length (.row 168 0 (mZ g l nx q (.fy H.length 0 1 0 l.length))) (hM (iY l.length) (cs L) L.length) (jI (λc => !iY l.length c) (cs L) L.length) d none ow P Q):=by
 have rp:=mS K;have Vb:=hd.len;have iI:kA (H.length+1) q=true:=GM (by omega) (List.all_eq_true.1 (fG _ (List.mem_of_getElem? K)) q (by unfold mZ;simp));have hG:GH H ck:=⟨rp,fG⟩;have qp:∀R o,(H++R).set ck o=H.set ck o++R:=λR o=>bn _ _ rp;have Lx:∀R:U,(H++R)[ck]? = some (.row 168 0 (mZ g l nx q old)):=λR=>kT K;have hz:=akA H.length l.length;obtain⟨C,hC⟩:∃C,Ob.row 168 0 (mZ g l nx q (.fy H.length 0 1 0 l.length))=C:=⟨_,rfl⟩
 have g4:n9 (H.length+1) C=true:=by rw[<-hC];unfold mZ;simp[iI]
 have fR:=HI.start (n:=l.length) fG K g4;rw[hC];have Ck:C = .row 168 0 (g.cells ++ [gJ l,.sl 1 (nx.map fN),q,.fy H.length 0 1 0 l.length]):=hC.symm;have UL:∀sd,(Ob.row 168 0 [.i g.size,.sl 1 (g.next.map fI),dI g.iX,.sl 3 (g.kinds.map Kind.cells),.i g.gj,.b g.nJ,dN 4 Clause.cells g.clauses,.i g.blocked,.i g.uk,gJ l,.sl 1 (nx.map fN),q,sd]) = .row 168 0 (mZ g l nx q sd):=λsd=>by unfold mZ;simp
 have W:∀(o:Ob) (R:U),(H.set ck o++R)[ck]? = some o:=λo R=>hG.kT;have Lw:∀(o:Ob) (R:U),(H.set ck o++R)[H.length]? = R[0]? := λo R=>hG.acO;have pU:∀(o o':Ob) (R:U),(H.set ck o++R).set H.length o'=H.set ck o++R.set 0 o':=λo o' R=>hG.akQ;refine Yg HD ?_;simp[HD,K,Lx,qp,mZ,<-hz,W];(with_reducible repeat' first|refine Xk ?_<;>try simp[K,Lx,qp,mZ,<-hz,W]|refine Xs ?_ ?_<;>intro h<;>(try intro Z)<;>(try simp[h,K,Lx,qp,mZ,<-hz,W])<;>try omega|refine Xg ?_|omega);refine fO.s (by simp[Lx,qp,mZ];rfl) ?_;rw[UL,hC];refine fO.e (0:Int) (λy=>[(0,.ptr ck 0 0),(3,.fJ),(23,.i l.length),(24,.i y)]) (λy=>H.set ck C++(.row 170 0 (oM H.length l.length y.toNat)::List.replicate y.toNat (.map KS []))) (λy=>0<=y/\y<=l.length) (λy=>(l.length-y).toNat) ?_ ?_
 .simp
 rintro y ⟨y0,y1⟩;dsimp only at y0 y1 ⊢
 by_cases hy:y<l.length
 .have sh:=akC (b:=H.length) (n:=l.length) (k:=y.toNat) (by omega);have gW:=Yb H.length l.length y.toNat;simp[hy,W,Lw,pU,Ck,gW];(with_reducible repeat' first|refine Xk ?_<;>try simp[hy,W,Lw,pU,Ck,gW]|refine Xs ?_ ?_<;>intro h<;>(try intro Z)<;>(try simp[h,hy,W,Lw,pU,Ck,gW])<;>try omega|refine Xg ?_|omega)
  have e8:pt (oM H.length l.length y.toNat) y (.gg (H.length+(y.toNat+1)))=oM H.length l.length (y.toNat+1):=by rw[<-sh];unfold pt;simp[show(y+1).toNat=y.toNat+1 by omega]
  refine LJ.i (y+1) (by simp) ?_ rfl rfl mr;rw[e8,UL,hC,show(y+1).toNat=y.toNat+1 by omega,ea];rfl
 have vU:y=l.length:=by omega
 subst vU;obtain⟨ow,P,Q,a⟩:=fR;rw[bU];obtain⟨H1,Ag⟩:∃H1,H.set ck C++(.row 170 0 (oM H.length l.length l.length)::List.replicate l.length (.map KS []))=H1:=⟨_,rfl⟩;rw[Ag]at a ⊢;have B:=a.ct;rw[Ck]at B;clear Ag W Lw pU hy y0 y1;simp[B,Vb];refine ku B Vb ?_;refine fO.e ((H1,0,[],.fJ):U×Int×List Int×D) (λy=>[(0,.ptr ck 0 0),(3,y.2.2.2),(38,q),(39,.i L.length),(40,.i y.2.1)]) (λy=>y.1) (λy=>(0<=y.2.1/\y.2.1<=L.length)/\y.2.2.1=jI (λc => !iY l.length c) (cs L) y.2.1.toNat/\y.2.2.1.length<=y.2.1.toNat/\∃ow P Q,HI H y.1 ck H.length l.length C (hM (iY l.length) (cs L) y.2.1.toNat) y.2.2.1 y.2.2.2 none ow P Q) (λy=>(L.length-y.2.1).toNat) ?_ ?_
 .exact⟨by simp,rfl,by simp,ow,P,Q,a⟩
 clear a B;rintro⟨Hc,k,bad,NQ⟩ ⟨⟨k0,k1⟩,Ap,ln,ow,P,Q,a⟩;dsimp only at k0 k1 Ap ln a ⊢
 by_cases Y:k<L.length
 .obtain⟨pp,yL,sT⟩:=hd.ix k0 Y;have sT:=sT Hc λv o hv hc=>(a.kp v o hv hc).1;have N:=hL _ (fZ k0 Y);have c1:=abl (gt L k) N;have F:=aec (p:=λc => !iY l.length c) k0 Y;rw[<-Ap]at F;have kK:=KX N;rw[<-kK]at c1;have u:(gP (gt L k)).length=36:=Fl.len _;have gu:gh (gP (gt L k))=true:=Fl.cl _;have s:(gP (gt L k)).take 36=gP (gt L k):=af (by omega);have B:=a.ct;rw[Ck]at B;have A:∀R:U,(Hc++R)[ck]? = some (.row 168 0 (g.cells ++ [gJ l,.sl 1 (nx.map fN),q,.fy H.length 0 1 0 l.length])):=λR=>kT B;obtain⟨p,hp⟩:∃p,snd (gt L k).c=p:=⟨_,rfl⟩;rw[hp]at c1;simp[Y,yL,sT];refine zC u s yL sT ?_;simp[u,s];refine iF.c rfl rfl c1 (by simp[gu]) (by simp) ?_;have w:iY l.length (gt L k).c=(p&&decide ((gt L k).c.hi<=l.length)):=by unfold iY;rw[hp]
  have E:gP (gt L k)=D.i (gt L k).c.who::D.i (gt L k).c.lo::D.i (gt L k).c.hi::dE (gt L k).em (gt L k).c.es::cl fU (gt L k).c.root:=by rw[kK];unfold Cw.cells;rfl
  have Fc:(k.toNat:Int)=k:=by omega
  have Ln:iY l.length (gt L k).c=false->hM (iY l.length) (cs L) (k+1).toNat=hM (iY l.length) (cs L) k.toNat:=λh=>by rw[show(k+1).toNat=k.toNat+1 by omega];refine ac2 ?_;rw[Fc,UF k0 Y];exact h
  cases p
  .rw[Bool.false_and]at w;simp only[w,Bool.not_false,if_true]at F
   have hX:(gP (gt L k)).take 36++(D.i 0::D.i 0::D.i 0::D.fJ::AL.cl fU (zs 32)).drop (min 36 (gP (gt L k)).length)=gP (gt L k):=by rw[s,u];simp
   simp[u,s];refine ku u s ?_;rcases a.bd with⟨rfl,rfl⟩|⟨uz,v,gn,rfl,I,uA⟩
   .simp;refine fD ?_;refine LJ.i (_,k+1,[k],.fy (Hc.length+2) 0 1 0 1) (by simp) rfl rfl rfl ?_;refine⟨by dsimp only;omega,ic,F.symm,by simp;omega,?_⟩;dsimp only;rw[Ln w,hX];have m:=(a.more (o:=.row 72 0 (gP (gt L k))) (Gg gu) (7,0,0)).more (o:=.row 3 0 [.i k]) rfl (7,0,0);obtain⟨oa,Co⟩:=m.SI k;exact⟨oa,P,Q,by simpa[p5,iQ]using Co⟩
   .have yE:∀R:U,(Hc++R)[v]? = some (.row 3 gn (AL.cl f1 bad)):=λR=>kT I;have E4:∀(R:U) (o:Ob),(Hc++R).set v o=Hc.set v o++R:=λR o=>bn _ _ (mS I);simp[yE,E4];refine ku yE E4 ?_;refine LJ.i (_,k+1,bad ++ [k],.fy v (gn+1) 1 0 (bad.length+1)) (by simp) rfl rfl rfl ?_;refine⟨by dsimp only;omega,ic,F.symm,by simp;omega,?_⟩;dsimp only;rw[Ln w,hX];have m:=((a.SJ (k:=k) uz I uA).more (o:=.row 72 0 (gP (gt L k))) (Gg gu) (7,0,0)).more (o:=.row 3 0 [.i k]) rfl (7,0,0);exact⟨_,P,Q,by simpa using m⟩
  .rw[eF]at w
   by_cases E':(gt L k).c.hi<=l.length
   .rw[decide_eq_true E']at w;simp only[w,Bool.not_true,bq,if_false]at F;have V:¬(l.length:Int)<(gt L k).c.hi:=by omega
    have FB:=Rv hp
    have hX:(gP (gt L k)).take 36++(D.i 0::D.i 0::D.i 0::D.fJ::AL.cl fU (zs 32)).drop (min 36 (gP (gt L k)).length)=gP (gt L k):=by rw[s,u];simp
    have oG:=Tu N.em
    have U1:(gt L k).c.root.take 32++(zs 32).drop (min 32 (gt L k).c.root.length)=(gt L k).c.root:=by rw[N.root,af (by rw[N.root];omega)];simp
    simp[u,s,hX,E,A,V];(with_reducible repeat' first|refine Xk ?_<;>try simp[u,s,hX,E,A,V,oG]|refine Xs ?_ ?_<;>intro h<;>(try intro Z)<;>(try simp[h,u,s,hX,E,A,V,oG])<;>try omega|refine Xg ?_|omega);simp[oG,U1];refine fO.s (by simp[U1,<-E];rfl) ?_;rw[hX];have hB:=a.box (o:=.row 72 0 (gP (gt L k))) (Gg gu);have n8:(gt L k).c.hi=(gt L k).c.lo+(gt L k).c.es.length:=by omega
    have Cz:gt (cs L) (k.toNat:Int)=(gt L k).c:=by rw[Fc,UF k0 Y]
    refine fO.e ((Hc ++ [.row 72 0 (gP (gt L k))],0):U×Int) (λy=>[(0,.ptr ck 0 0),(3,NQ),(5,.i k),(6,.ptr Hc.length 0 0),(38,q),(39,.i L.length),(40,.i k),(63,dE (gt L k).em (gt L k).c.es),(64,.i (gt L k).c.es.length),(65,.i y.2)]) (λy=>y.1) (λy=>(0<=y.2/\y.2<=(gt L k).c.es.length)/\∃ow P Q,HI H y.1 ck H.length l.length C (hP (iY l.length) (cs L) k.toNat y.2.toNat) bad NQ (some (Hc.length,.row 72 0 (gP (gt L k)))) ow P Q) (λy=>((gt L k).c.es.length-y.2).toNat) ?_ ?_
    .exact⟨by simp,_,P,Q,by rw[show(((Hc ++ [Ob.row 72 0 (gP (gt L k))],0):U×Int).2).toNat=0 from rfl,ac5];exact hB⟩
    clear a hB B A;rintro⟨f,e⟩ ⟨⟨e0,e1⟩,ow,P,Q,a⟩;dsimp only at e0 e1 a ⊢
    by_cases O:e<(gt L k).c.es.length
    .have g0:(gt L k).em=false:=by
      cases h:(gt L k).em with
      | false=>rfl
      | true=>rw[N.em h]at O;simp at O;omega
     have g1:dE (gt L k).em (gt L k).c.es=gY (gt L k).c.es:=by rw[g0];rfl
     have B:=a.ct;rw[Ck]at B;have A:∀R:U,(f++R)[ck]? = some (.row 168 0 (g.cells ++ [gJ l,.sl 1 (nx.map fN),q,.fy H.length 0 1 0 l.length])):=λR=>kT B;have OY:∀R:U,(f++R)[Hc.length]? = some (.row 72 0 (gP (gt L k))):=λR=>kT (a.bx _ rfl).1;have qo:∀R:U,(f++R)[H.length]? = some (.row 170 0 ((List.range l.length).map λj=>D.gg (P j))):=λR=>kT a.sg.row;obtain⟨r,hr⟩:∃r,gt (gt L k).c.es e=r:=⟨_,rfl⟩;obtain⟨j,hj⟩:∃j:Nat,(gt L k).c.lo+e=j:=⟨((gt L k).c.lo+e).toNat,by omega⟩;have M:j<l.length:=by omega
     have lr:=N.lo;rw[g1];simp[O,hr];refine ku O hr ?_;simp[A,OY,qo,E,hj,M];(with_reducible repeat' first|refine Xk ?_<;>try simp[A,OY,qo,E,hj,M]|refine Xs ?_ ?_<;>intro h<;>(try intro Z)<;>(try simp[h,A,OY,qo,E,hj,M])<;>try omega|refine Xg ?_|omega);have uH:(gt (cs L) (k.toNat:Int)).lo.toNat+e.toNat=j:=by rw[Cz];omega
     have fR:hP (iY l.length) (cs L) k.toNat (e+1).toNat=vb (hP (iY l.length) (cs L) k.toNat e.toNat) j (nf r k (hP (iY l.length) (cs L) k.toNat e.toNat j)):=by have:=ac4 (ad:=iY l.length) (cl:=cs L) (k:=k.toNat) (e:=e.toNat) (by rw[Cz];exact FB.1);rw[uH,Cz,show(e.toNat:Int)=e by omega,hr,Fc]at this;rw[show(e+1).toNat=e.toNat+1 by omega];exact this
     have UQ:hP (iY l.length) (cs L) k.toNat e.toNat j=hM (iY l.length) (cs L) k.toNat j:=by have:=US (ad:=iY l.length) (cl:=cs L) (k:=k.toNat) (e:=e.toNat) (by rw[Cz];exact FB.1);rw[uH]at this;exact this
     have gS:∀t x,ng r (hP (iY l.length) (cs L) k.toNat e.toNat j)=some (t,x)->x≠[]/\x.length<=k.toNat:=λt x h=>by rw[UQ]at h;exact⟨acR h,acQ h⟩
     obtain⟨z,UP⟩:∃z,hP (iY l.length) (cs L) k.toNat e.toNat=z:=⟨_,rfl⟩;rw[UP]at a fR gS;clear UP UQ uH;obtain⟨p1,p2⟩:=a.sg.mp j M;have S:=mS p1;have hS:∀(R:U) (o:Ob),(f++R).set (P j) o=f.set (P j) o++R:=λR o=>bn _ _ S
     cases hg:ng r (z j)with
     | none=>
      have J:∀R,xu (.ints [.i64,.i64]) .fJ (.gg (P j)) (.agg [.i r.1,.i r.2]) (f++R)=some (.tup [.fJ,.i (z j).length],.obj (P j) (.map KS (iC (Q j) 0 (z j) ++ [(kX r,.fJ)]))):=λR=>aeX (kT p1) hg
      have hN:∀(o:Ob) (R:U) (i:Nat),(f.set (P j) o++R)[f.length+i]? = R[i]? := λo R i=>by rw[ai (by rw[aF];omega),aF];congr 1;omega
      have G:∀(d:D) (R:U),zQ (.gg (P j)) (.i (z j).length) d (f.set (P j) (.map KS (iC (Q j) 0 (z j) ++ [(kX r,.fJ)]))++R)=some (.any,.obj (P j) (.map KS (iC (Q j) 0 (z j) ++ [(kX r,d)]))):=λd R=>by rw[TG (es:=iC (Q j) 0 (z j) ++ [(kX r,.fJ)]) (k:=kX r) (d0:=.fJ) (by rw[ah (by rw[aF];exact S),aY S]) (by rw[ai (by rw[zU];omega),zU,bS];rfl)];rw[dW _ _ (by rw[zU];omega),zU,bS];rfl
      have X:∀(R:U) (o o':Ob),(f.set (P j) o++R).set (P j) o'=f.set (P j) o'++R:=λR o o'=>by rw[bn _ _ (by rw[aF];exact S),List.set_set]
      simp[J,hS,hN,G,X];(with_reducible repeat' first|refine Xk ?_<;>try simp[J,hS,hN,G,X]|refine Xs ?_ ?_<;>intro h<;>(try intro Z)<;>(try simp[h,J,hS,hN,G,X])<;>try omega|refine Xg ?_|omega);refine LJ.i (_,e+1) (by simp) rfl rfl rfl ?_;refine⟨by dsimp only;omega,ic,?_⟩;dsimp only;rw[fR];have m:=(a.more (o:=.row 86 0 [.i r.1,.i r.2]) rfl (7,0,0)).more (o:=.row 3 0 [.i k]) rfl (7,0,0);obtain⟨oa,Q',Co,_⟩:=m.new (r:=r) (k:=k) M hg;refine⟨oa,P,Q',?_⟩;have O:(f ++ [Ob.row 86 0 [.i r.1,.i r.2]] ++ [Ob.row 3 0 [.i k]]).length=f.length+2:=by simp
      rw[O,aI,bn _ _ S]at Co;simpa[p5,iQ,oI]using Co
     | some tx=>
      obtain⟨t,x⟩:=tx;obtain⟨e5,ry⟩:=gS t x hg;have n6:0<x.length:=av.2 e5;obtain⟨q1,q2⟩:=a.sg.ls j M t _ (yw (k:=k) hg).1;have qn:=mS q1;have yN:P j≠Q j t:=λe=>by rw[e,q2]at p2;simp at p2
      have vN:∀R:U,(f++R)[Q j t]? = some (.row 3 (x.length-1) (AL.cl f1 x)):=λR=>kT q1;have J:∀R,xu (.ints [.i64,.i64]) .fJ (.gg (P j)) (.agg [.i r.1,.i r.2]) (f++R)=some (.tup [oI (Q j t) x,.i t],.obj (P j) (.map KS (iC (Q j) 0 (z j)))):=λR=>aeY (kT p1) hg;have yQ:f.set (P j) (.map KS (iC (Q j) 0 (z j)))=f:=rE p1;have hQ:∀(R:U) (o:Ob),(f++R).set (Q j t) o=f.set (Q j t) o++R:=λR o=>bn _ _ qn
      have G:∀(d:D) (o:Ob) (R:U),zQ (.gg (P j)) (.i t) d (f.set (Q j t) o++R)=some (.any,.obj (P j) (.map KS ((iC (Q j) 0 (z j)).set t (kX r,d)))):=λd o R=>by
       refine TG (k:=kX r) (d0:=oI (Q j t) x) ?_ ?_
       .rw[ah (by rw[aF];exact S),bR (cF yN)];exact p1
       .rw[wP,(yw (k:=k) hg).1];simp
      have X:∀(R:U) (o o':Ob),(f.set (Q j t) o++R).set (P j) o'=(f.set (Q j t) o).set (P j) o'++R:=λR o o'=>bn _ _ (by rw[aF];exact S);simp[J,hS,yQ,vN,hQ,G,X,oI];(with_reducible repeat' first|refine Xk ?_<;>try simp[J,hS,yQ,vN,hQ,G,X,oI]|refine Xs ?_ ?_<;>intro h<;>(try intro Z)<;>(try simp[h,J,hS,yQ,vN,hQ,G,X,oI])<;>try omega|refine Xg ?_|omega);refine LJ.i (_,e+1) (by simp) rfl rfl rfl ?_;refine⟨by dsimp only;omega,ic,?_⟩;dsimp only;rw[fR];have m:=((a.old (r:=r) (k:=k) M hg).more (o:=.row 86 0 [.i r.1,.i r.2]) rfl (7,0,0)).more (o:=.row 3 0 [.i k]) rfl (7,0,0);have lz:(x ++ [k]).length-1=x.length-1+1:=by simp;omega
      have kf:(x ++ [k]).length=x.length+1:=by simp
      have:oI (Q j t) (x ++ [k]) = .fy (Q j t) (x.length-1+1) 1 0 (x.length+1):=by unfold oI;rw[lz,kf]
      rw[this]at m;unfold p5 at m;rw[lz]at m;rw[aI]at m;exact⟨_,P,Q,m⟩
    have o0:e=(gt L k).c.es.length:=by omega
    have w6:hP (iY l.length) (cs L) k.toNat e.toNat=hM (iY l.length) (cs L) (k+1).toNat:=by rw[show(k+1).toNat=k.toNat+1 by omega];exact ac3 (by rw[Cz];exact w) (by rw[Cz];omega)
    rw[w6]at a;simp[O];refine fD ?_;refine LJ.i (f,k+1,bad,NQ) (by simp) rfl rfl rfl ?_;exact⟨by dsimp only;omega,ic,F.symm,by dsimp only;omega,ow,P,Q,a.nob⟩
   .rw[decide_eq_false E']at w;have V:(l.length:Int)<(gt L k).c.hi:=by omega
    simp only[w,Bool.not_false,if_true]at F
    have hX:(gP (gt L k)).take 36++(D.i 0::D.i 0::D.i 0::D.fJ::AL.cl fU (zs 32)).drop (min 36 (gP (gt L k)).length)=gP (gt L k):=by rw[s,u];simp
    simp[u,s,hX,E,A,V];(with_reducible repeat' first|refine Xk ?_<;>try simp[u,s,hX,E,A,V]|refine Xs ?_ ?_<;>intro h<;>(try intro Z)<;>(try simp[h,u,s,hX,E,A,V])<;>try omega|refine Xg ?_|omega);rcases a.bd with⟨rfl,rfl⟩|⟨uz,v,gn,rfl,I,uA⟩
    .simp;refine fD ?_;refine LJ.i (_,k+1,[k],.fy (Hc.length+2) 0 1 0 1) (by simp) rfl rfl rfl ?_;refine⟨by dsimp only;omega,ic,F.symm,by simp;omega,?_⟩;dsimp only;rw[Ln w,hX];have m:=(a.more (o:=.row 72 0 (gP (gt L k))) (Gg gu) (7,0,0)).more (o:=.row 3 0 [.i k]) rfl (7,0,0);obtain⟨oa,Co⟩:=m.SI k;exact⟨oa,P,Q,by simpa[p5,iQ]using Co⟩
    .have yE:∀R:U,(Hc++R)[v]? = some (.row 3 gn (AL.cl f1 bad)):=λR=>kT I;have E4:∀(R:U) (o:Ob),(Hc++R).set v o=Hc.set v o++R:=λR o=>bn _ _ (mS I);simp[yE,E4];refine ku yE E4 ?_;refine LJ.i (_,k+1,bad ++ [k],.fy v (gn+1) 1 0 (bad.length+1)) (by simp) rfl rfl rfl ?_;refine⟨by dsimp only;omega,ic,F.symm,by simp;omega,?_⟩;dsimp only;rw[Ln w,hX];have m:=((a.SJ (k:=k) uz I uA).more (o:=.row 72 0 (gP (gt L k))) (Gg gu) (7,0,0)).more (o:=.row 3 0 [.i k]) rfl (7,0,0);exact⟨_,P,Q,by simpa using m⟩
 have AE:k=L.length:=by omega
 subst AE;rw[bU]at a Ap;rw[<-Ap];simp;refine fD ?_;exact⟨ow,P,Q,a⟩
end Go.Proofs.YtmehofoficaelaaGreatDoor
namespace Go.Proofs.YtmehofoficaelaaGreatDoor
open Go Go.AL Classical
set_option maxRecDepth 10000
set_option maxHeartbeats 4000000
theorem SU{n:Nat}{N:Int->Int}{K:Int->Prop}(c:∀i,K i->(0<=i/\i<n)/\0<=N i)(h:∀i,K i->N i=0\/∃k,K k/\N k=N i-1):∀i,K i->N i<n:=by
 have b:∀(a:Nat) (i:Int),K i->N i=a->∀m:Nat,m<=a->∃q,K q/\N q=m:=by
  intro a
  induction a with
  | zero=>exactλi hi e m j=>⟨i,hi,by omega⟩
  | succ a d=>
   intro i hi e m j
   by_cases em:m=a+1
   .exact⟨i,hi,by omega⟩
   rcases h i hi with h1|⟨k,l,h1⟩
   .omega
   .exact d k l (by omega) m (by omega)
 intro i hi;have h0:=c i hi
 have:=Gc (eT (n:=(N i).toNat+1)) (m:=(upto n).map λk=>(N k).toNat) λx f=>by obtain⟨q,g,e⟩:=b (N i).toNat i hi (by omega) x (by have:=a8.1 f;omega);exact aq.2 ⟨q,jj.2 (c q g).1,by rw[e];rfl⟩
 simp[upto]at this;omega
theorem aeL{A:ny}{n:Nat}{v:List fE}(hS:∀i:Int,0<=i->i<n->∀k∈gt A.nx i,0<=k/\k<n)(h:∀i:Int,0<=i->i<n->pd A v i){i:Int}(i0:0<=i)(e:i<n):0<=(gt v i).2/\(gt v i).2<n:=by
 refine⟨(h i i0 e).n0,SU (N:=λi=>(gt v i).2) (K:=λi=>0<=i/\i<n) (λi hi=>⟨hi,(h i hi.1 hi.2).n0⟩) (λi hi=>?_) i ⟨i0,e⟩⟩;rcases h i hi.1 hi.2 with⟨_,b⟩|⟨_,⟨a,f,b,⟨k,c,d⟩,_⟩|⟨a,f,b,_,k,c,d⟩|⟨b,_⟩⟩
 .left;rw[b]
 .right;exact⟨k,hS i hi.1 hi.2 k c,by rw[b,d]⟩
 .right;exact⟨k,hS i hi.1 hi.2 k c,by rw[b,d]⟩
 .left;rw[b]
def kV(v:List Kn):List fE:=v.map λx=>(x.1,x.2.1)
def kB(v:List Kn):List Bool:=v.map λx => !x.2.2
theorem Aa{v:List Kn}{k:Int}(k0:0<=k)(k1:k<v.length):gt (kV v) k=((gt v k).1,(gt v k).2.1):=by rw[jc k0 (by unfold kV;rw[List.length_map];exact k1),jc k0 k1];unfold kV;rw[List.getElem_map]
theorem vD{v:List Kn}{k:Int}(k0:0<=k)(k1:k<v.length):gt (kB v) k = !(gt v k).2.2:=by rw[jc k0 (by unfold kB;rw[List.length_map];exact k1),jc k0 k1];unfold kB;rw[List.getElem_map]
@[local simp] theorem as2:max (0:Int) (-1)=0:=by decide
noncomputable def oT(v:List Kn)(x:List Int)(n:Int):Kn:=if A0 (kV v) (kB v) x n then(1,n,true)else if (lg (kV v) (kB v) x x.length).1=x.length/\(lg (kV v) (kB v) x x.length).2=n-1 then(3,n,true)else(0,0,false)
theorem Uc(v:List Kn)(l:List Int)(n:Int)(B:1<=n/\n<=4000)(h0:0<l.length)(hl:l.length<2 ^ 40)(p:∀k∈l,0<=k/\k<v.length)(z:∀k∈l,(gt v k).2.2=true->0<=(gt v k).2.1) :
  Wf T 129 [.sl 3 (v.map fK),dI l,.i n] [] (Is (.agg [.i (oT v l n).1,.i (oT v l n).2.1,.b (oT v l n).2.2])):=by
 refine Yg JK ?_;simp[JK];refine fO.e (0:Int) (λy=>[(0,.sl 3 (v.map fK)),(1,dI l),(2,.i n),(6,.ptr 0 0 0),(7,.i (lg (kV v) (kB v) l y.toNat).1),(8,.i (max 0 (lg (kV v) (kB v) l y.toNat).2)),(9,.i y)]) (λy=>[.row 245 0 [.i 0,.i 0,.b false]]) (λy=>0<=y/\y<=l.length/\∀k∈l.take y.toNat,¬(gt (kB v) k=false/\gt (kV v) k=(3,n-1))) (λy=>(l.length-y).toNat) ?_ ?_
 .simp
 rintro j ⟨j0,j1,j2⟩;dsimp only at j0 j1 j2 ⊢
 by_cases f:j<l.length
 .have a:=p _ (fZ j0 f);have c:=alF (v:=kV v) (b:=kB v) (x:=l) j0;have hV:=Aa a.1 a.2;have g:=vD a.1 a.2;have w:=Nf (kV v) (kB v) l j.toNat
  have d:¬(gt (kB v) (gt l j)=false/\gt (kV v) (gt l j)=(3,n-1))->∀k∈l.take (j+1).toNat,¬(gt (kB v) k=false/\gt (kV v) k=(3,n-1)):=λh k a=>by
   rw[iO j0 f]at a;rcases List.mem_append.1 a with a|a
   .exact j2 k a
   .rw[List.mem_singleton.1 a];exact h
  rw[hV,g]at d c;simp[f];generalize gt v (gt l j)=r at *;obtain⟨o,m,s⟩:=r;dsimp only at d c hV g ⊢;(with_reducible repeat' first|refine Xk ?_<;>try simp|refine Xs ?_ ?_<;>intro h<;>(try intro A)<;>(try simp[h])<;>try omega|refine Xg ?_|omega)
  .have hl:A0 (kV v) (kB v) l n:=⟨_,fZ j0 f,by rw[g];simp[*],by rw[hV];simp[*]⟩;simp[oT,hl]
  .refine LJ.i (j+1) (by first|rfl|simp[c, *]) (by first|rfl|simp[c, *]) rfl rfl ?_;exact gx (d (by simp[*]))
  .refine LJ.i (j+1) (by first|rfl|simp[c, *]) (by first|rfl|simp[c, *]) rfl rfl ?_;exact gx (d (by simp[*]))
  .refine LJ.i (j+1) (by first|rfl|simp[c, *]) (by first|rfl|simp[c, *]) rfl rfl ?_;exact gx (d (by simp[*]))
 .have u:j=l.length:=by omega
  subst u;have hl:¬A0 (kV v) (kB v) l n:=λ⟨k,a,h⟩=>j2 k (by rw[kG (by omega)];exact a) h
  have i:(lg (kV v) (kB v) l l.length).1=l.length->max 0 (lg (kV v) (kB v) l l.length).2=(lg (kV v) (kB v) l l.length).2:=λe=>by have h1:=Ng _ e 0 h0;have t:=RC _ e 0 h0;have q:=fZ (l:=l) (n:=((0:Nat):Int)) (by omega) (by omega);have a:=p _ q;rw[vD a.1 a.2]at t;rw[Aa a.1 a.2]at h1;have:=z _ q (by simpa using t.1);dsimp only at h1;omega
  simp[f];(with_reducible repeat' first|refine Xk ?_<;>try simp|refine Xs ?_ ?_<;>intro h<;>(try intro A)<;>(try simp[h])<;>try omega|refine Xg ?_|omega)
  .rw[i ‹_›]at h;simp[oT,hl, *]
  .rw[i ‹_›]at h;simp[oT,hl, *]
  .simp[oT,hl, *]
end Go.Proofs.YtmehofoficaelaaGreatDoor
namespace Go.Proofs.YtmehofoficaelaaGreatDoor
open Go Go.AL Classical
set_option maxRecDepth 10000
set_option maxHeartbeats 16000000
attribute [-simp] rQ
theorem Z9{l:List fE}{n:Int}(n0:0<=n)(h:n<l.length)(a:Int):(cl fS l).take (n.toNat*2) ++ .i a::(cl fS l).drop (n.toNat*2+1)=cl fS (pt l n (a,(gt l n).2)):=by
 have e:(cl fS l).drop (n.toNat*2+1) = .i (gt l n).2::(cl fS l).drop (n.toNat*2+2):=by
  have h1:(cl fS l).drop (n.toNat*2) = .i (gt l n).1 :: .i (gt l n).2::cl fS (l.drop (n.toNat+1)):=by rw[uf,nb n0 h,mi,Cd];rfl
  have b:(cl fS l).drop (n.toNat*2+2)=cl fS (l.drop (n.toNat+1)):=by rw[show n.toNat*2+2=(n.toNat+1)*2 by omega,uf]
  rw[b,<-bT,h1];rfl
 rw[e];exact ND a _
theorem QH{n:Nat}{H G:U}(h:jO H.length H)(a:n=H.length)(b:jO n G):jO (H++G).length (H++G):=by subst a;rw[au];exact za (Gf (by omega) h) (Gf (by omega) b)
section
variable{H:U}{ck sr n:Nat}{M:Nat->jK}{ow:Nat->Nat×Nat×Nat}{P:Nat->Nat}{Q:Nat->Nat->Nat}{cells:List D}
theorem mh.app(h:mh H ck sr n M ow P Q)(G:U):mh (H++G) ck sr n M ow P Q:=h.mono λ_ _ a _=>kT a
theorem T1(l:mh H ck sr n M ow P Q)(fG:jO H.length H)(h:H[ck]? = some (.row 168 0 cells))(g:cells[12]? = some (.fy sr 0 1 0 n))
  {cm:List gp} (u:cm.length<=100000) {i:Int} (i0:0<=i) (j:i<n) (hM:M i.toNat=gH cm i) {t2 t3:Nat} (b:H[t2]? = some (.row 157 0 [.ptr ck 0 0])) (a:H[t3]? = some (.row 3 0 [.i i])) (q:fE) :
  Wf T 186 [.agg [.i q.1,.i q.2],.ptr t2 0 0,.ptr t3 0 0] H (λd H'=>d=dN 1 f1 (jI (λc=>ie c i&&decide (iW c i≠q)) cm cm.length)/\H'=H):=by
 have f:∀R:U,(H++R)[t2]? = some (.row 157 0 [.ptr ck 0 0]):=λR=>kT b;have e:∀R:U,(H++R)[t3]? = some (.row 3 0 [.i i]):=λR=>kT a;refine Yg HU ?_;simp[HU,f,e];refine fY.lW rfl rfl (N8 (H:=H ++ [.row 86 0 [.i q.1,.i q.2]]) (l.app _) (QH fG rfl λo m=>by rw[List.mem_singleton.1 m];rfl) (kT h) g u i0 j hM (w:=λr=>decide (r≠q)) λr dst s K p k=>?_) ?_
 .have t:=p H.length (.row 86 0 [.i q.1,.i q.2]) (by simp);exact Yr (abR r q) k rfl rfl (by simp[t])
 .rintro _ H' ⟨rfl,rfl⟩;simp[y4 fG]
end
end Go.Proofs.YtmehofoficaelaaGreatDoor
namespace Go.Proofs.YtmehofoficaelaaGreatDoor
open Go Go.AL Classical
set_option maxRecDepth 10000
set_option maxHeartbeats 16000000
attribute [-simp] rQ
def pG(cm:List gp)(m j k:Int)(V:List fE)(seen:List Nat):List fE:=if seen≠[]/\(gH cm j).length=1/\(pM (sd cm j)).2<m then pt (pt V k (2,0)) k (pM (sd cm j))else pt V k (2,0)
@[simp] theorem alB(cm:List gp)(m j k:Int)(V:List fE):pG cm m j k V []=pt V k (2,0):=if_neg λh=>h.1 rfl
section
variable{cm:List gp}{m j k:Int}{V:List fE}{seen:List Nat}
theorem YN(k0:0<=k)(k1:k<V.length):(pG cm m j k V seen).length=V.length:=by
 unfold pG;have h:=iq (l:=V) (v:=((2,0):fE)) k0 k1;split
 .rw[iq k0 (by omega),h]
 .exact h
theorem YO(k0:0<=k)(k1:k<V.length){i:Int}(i0:0<=i)(h:i≠k):gt (pG cm m j k V seen) i=gt V i:=by
 unfold pG;have hl:=iq (l:=V) (v:=((2,0):fE)) k0 k1;split
 .rw[oz k0 (by omega) i0,if_neg h,oz k0 k1 i0,if_neg h]
 .rw[oz k0 k1 i0,if_neg h]
theorem alA(k0:0<=k)(k1:k<V.length)(hs:sd cm j≠[])(d:∀t,t<(gH cm j).length->t∈seen):gt (pG cm m j k V seen) k=wN cm m j:=by
 unfold pG wN;have hl:=iq (l:=V) (v:=((2,0):fE)) k0 k1;have f:(gH cm j).length≠0:=λh=>hs (Ov.1 h)
 have b:seen≠[]:=λh=>by have:=d 0 (by omega);rw[h]at this;cases this
 have a:(gH cm j).length=1↔lk (sd cm j)=false:=by
  have:=Le (cl:=cm) (i:=j)
  cases e:lk (sd cm j)with
  | true=>
   rw[e]at this;constructor
   .intro h;have:=this.2 rfl;omega
   .intro h;cases h
  | false=>
   rw[e]at this;constructor
   .intro _;rfl
   .intro _;have g:¬ 1<(gH cm j).length:=λh=>by cases this.1 h
    omega
 by_cases c:lk (sd cm j)=false/\(pM (sd cm j)).2<m
 .rw[if_pos c,if_pos ⟨b,a.2 c.1,c.2⟩,oz k0 (by omega) k0,if_pos rfl]
 .rw[if_neg c,if_neg λh=>c ⟨a.1 h.2.1,h.2.2⟩,oz k0 k1 k0,if_pos rfl]
end
section
variable{H:U}{ck sr n:Nat}{M:Nat->jK}{ow:Nat->Nat×Nat×Nat}{P:Nat->Nat}{Q:Nat->Nat->Nat}
theorem abE(g:fH)(hg:gF g)(l:List Pos)(hc:oR g l){jg:D}(oG:n=l.length)(J:mh H ck sr n M ow P Q)(fG:jO H.length H)(X:H[ck]? = some (.row 168 0 (mZ g l (gd g l) jg (.fy sr 0 1 0 n))))
  {cm:List gp} (h8:cm.length<=100000) {i:Int} (i0:0<=i) (I:i<n) (hM:∀j,j<n->M j=gH cm j)
  (hp:∀j:Int,0<=j->j<l.length->∀r∈sd cm j,kM r=true) (hb:∀j:Int,0<=j->j<l.length->∀r∈sd cm j,r.2<=4000) (hs:∀j:Int,0<=j->j<l.length->sd cm j≠[]) :
  Wf T 123 [.ptr ck 0 0,.i i] H (λd H'=>d=dN 1 f1 (jI (oQ (lQ g l (gd g l)) cm i) cm cm.length)/\H'=H):=by
 subst oG;have g6:=hc.len;have uK:=hc.ok _ (fZ i0 I);have uJ:(gd g l).length=l.length:=by simp[gd]
 have gq:=(qw hc (i:=i) i0 I).2;have gS:=(qw hc (i:=i) i0 I).1
 have ry:(gt (gd g l) i).length<=4000000000:=by rw[gS,List.length_map];have:=y8 hg uK;omega
 have tI:(stat g (gt l i)).2=false->0<(gt (gd g l) i).length:=λh=>by
  rw[gS,List.length_map];have:iz g (gt l i)≠[]:=λe=>by unfold stat at h;simp[e]at h
  exact av.2 this
 have NM:=f54 g hg (gt l i) uK;obtain⟨m,hm⟩:∃m,lL (sd cm i)=m:=⟨_,rfl⟩
 have uO:(stat g (gt l i)).2=true->∀c∈cm,(ie c i&&decide (iW c i≠((stat g (gt l i)).1,0)))=oQ (lQ g l (gd g l)) cm i c:=λh c _=>by unfold oQ;rw[if_pos (show(lQ g l (gd g l)).ov i=true from h)];rfl
 have F:(stat g (gt l i)).2=false->(nX ((gt (gd g l) i).map (wN cm m))).1≠2->∀c∈cm,(ie c i&&decide (iW c i≠nX ((gt (gd g l) i).map (wN cm m))))=oQ (lQ g l (gd g l)) cm i c:=λh f c _=>by unfold oQ;rw[if_neg (by rw[show(lQ g l (gd g l)).ov i=false from h];simp),hm,WX,show gt (lQ g l (gd g l)).nx i=gt (gd g l) i from rfl,if_pos f]
 have C:(stat g (gt l i)).2=false->(nX ((gt (gd g l) i).map (wN cm m))).1=2->∀c∈cm,(ie c i&&decide ((iW c i).1≠2/\(iW c i).2=m))=oQ (lQ g l (gd g l)) cm i c:=λh f c _=>by unfold oQ;rw[if_neg (by rw[show(lQ g l (gd g l)).ov i=false from h];simp),hm,WX,show gt (lQ g l (gd g l)).nx i=gt (gd g l) i from rfl,if_neg (by rw[f];simp)]
 obtain⟨W,hW⟩:∃W,jI (oQ (lQ g l (gd g l)) cm i) cm cm.length=W:=⟨_,rfl⟩;have Lq:∀p:gp->Bool,(∀c∈cm,p c=oQ (lQ g l (gd g l)) cm i c)->jI p cm cm.length=W:=λp h=>by rw[<-hW];exact V6 (by omega) h
 rw[hW];obtain⟨nx,se⟩:∃nx,gd g l=nx:=⟨_,rfl⟩;rw[se]at X uJ gq ry tI F C Lq uO;obtain⟨st,fR⟩:∃st,stat g (gt l i)=st:=⟨_,rfl⟩;rw[fR]at NM tI uO F C;obtain⟨o,ov⟩:=st;dsimp only at NM tI uO F C;have po:(mZ g l nx jg (.fy sr 0 1 0 l.length))[12]? = some (.fy sr 0 1 0 l.length):=by unfold mZ;simp
 have v:∀R:U,(H++R)[ck]? = some (.row 168 0 [.i g.size,.sl 1 (g.next.map fI),dI g.iX,.sl 3 (g.kinds.map Kind.cells),.i g.gj,.b g.nJ,dN 4 Clause.cells g.clauses,.i g.blocked,.i g.uk,gJ l,.sl 1 (nx.map fN),jg,.fy sr 0 1 0 l.length]):=λR=>by rw[kT X];unfold mZ;simp
 have U6:=mS X;have hA:n9 H.length (.row 157 0 [.ptr ck 0 0])=true:=by simp[U6]
 have wV:∀(G:U),jO H.length G->jO (H++(Ob.row 157 0 [.ptr ck 0 0]::Ob.row 3 0 [.i i]::G)).length (H++(Ob.row 157 0 [.ptr ck 0 0]::Ob.row 3 0 [.i i]::G)):=λG hG=>QH fG rfl λx J=>by
  rcases aw.1 J with rfl|J
  .exact hA
  .rcases aw.1 J with rfl|J
   .rfl
   .exact hG x J
 have EY:∀j:Int,0<=j->j<l.length->M j.toNat=gH cm j:=λj j0 j1=>by have:=hM j.toNat (by omega);rwa [show(j.toNat:Int)=j by omega]at this
 refine Yg HM ?_;simp[HM,v];refine jw v ?_;refine Yt (NM) ?_;simp[v];cases ov
 .have tI:=tI rfl;have F:=F rfl;have C:=C rfl;obtain⟨x,CU⟩:∃x,gt nx i=x:=⟨_,rfl⟩;rw[CU]at gq ry tI F C;simp;refine fD ?_;refine fY.w (by simp;rfl) ?_;refine fY.lW rfl rfl (N9 (H:=H ++ [.row 157 0 [.ptr ck 0 0],.row 3 0 [.i i]]) (J.app _) (wV [] λ_ h=>by cases h) (kT X) po i0 I (EY i i0 I) (hp i i0 I)) ?_;rintro _ H' ⟨rfl,rfl⟩;rw[hm];simp[v,CU,yp];(with_reducible repeat' first|refine Xk ?_<;>try simp[v,CU,yp]|refine Xs ?_ ?_<;>intro h<;>(try intro h')<;>(try simp[h,v,CU,yp])<;>try omega|refine Xg ?_|omega)
  have hz:(List.replicate x.length [D.i 0,D.i 0]).flatten=AL.cl fS (List.replicate x.length (0,0)):=by rw[mY,dB,Cd]
  refine fO.s (by simp[hz];rfl) ?_;refine fO.e ((0,List.replicate x.length (0,0),[]):Int×List fE×U) (λy=>[(2,.ptr H.length 0 0),(3,.ptr (H.length+1) 0 0),(5,.fn (.func 186) [] [.ptr H.length 0 0,.ptr (H.length+1) 0 0]),(8,.ptr (H.length+2) 0 0),(9,.fy (H.length+3) 0 2 0 x.length),(53,dN 1 f1 x),(54,.i x.length),(55,.i y.1)]) (λy=>H++(.row 157 0 [.ptr ck 0 0] :: .row 3 0 [.i i] :: .row 3 0 [.i m] :: .row 86 0 (AL.cl fS y.2.1)::y.2.2)) (λy=>(0<=y.1/\y.1<=x.length)/\y.2.1.length=x.length/\(∀j:Int,0<=j->j<y.1->gt y.2.1 j=wN cm m (gt x j))/\(∀j:Int,y.1<=j->j<x.length->gt y.2.1 j=(0,0))/\jO H.length y.2.2) (λy=>(x.length-y.1).toNat) ?_ ?_
  .refine⟨by simp,by simp,λj j0 j1=>absurd j1 (by dsimp only;omega),λj j0 j1=>?_,λ_ h=>by cases h⟩;rw[jc j0 (by simpa using j1)];simp
  rintro⟨k,V,R⟩ ⟨⟨k0,k1⟩,hV,OS,OT,hR⟩;dsimp only at k0 k1 hV OS OT hR ⊢
  by_cases hk:k<x.length
  .obtain⟨j,Y⟩:∃j,gt x k=j:=⟨_,rfl⟩;have a:=gq _ (fZ k0 hk);rw[Y]at a;have Fu:=Z9 k0 (by omega:k<V.length) 2;rw[OT k (by omega) hk]at Fu;obtain⟨p1,_⟩:=J.mp j.toNat (by omega);rw[EY j a.1 a.2]at p1;have E:∀R:U,(H++R)[sr]? = some (.row 170 0 ((List.range l.length).map λj=>D.gg (P j))):=λR=>kT J.row;obtain⟨p,B⟩:∃p,P j.toNat=p:=⟨_,rfl⟩;obtain⟨q,AM⟩:∃q,Q j.toNat=q:=⟨_,rfl⟩;rw[B,AM]at p1;have A:∀R:U,(H++R)[p]? = some (.map KS (iC q 0 (gH cm j))):=λR=>kT p1;have gX:=mS p1;simp[hk,Y,v,Fu,E,B,A,a.1,a.2];(with_reducible repeat' first|refine Xk ?_<;>try simp[hk,Y,v,Fu,E,B,A,a.1,a.2]|refine Xs ?_ ?_<;>intro h<;>(try intro h')<;>(try simp[h,hk,Y,v,Fu,E,B,A,a.1,a.2])<;>try omega|refine Xg ?_|omega);refine fO.s (by simp[Fu];rfl) ?_;refine fO.e (([],[]):List Nat×U) (λz=>[(2,.ptr H.length 0 0),(3,.ptr (H.length+1) 0 0),(5,.fn (.func 186) [] [.ptr H.length 0 0,.ptr (H.length+1) 0 0]),(8,.ptr (H.length+2) 0 0),(9,.fy (H.length+3) 0 2 0 x.length),(10,.i k),(11,.i j),(53,dN 1 f1 x),(54,.i x.length),(55,.i k),(71,.ptr (H.length+(R.length+4)) 0 0)]) (λz=>H++(.row 157 0 [.ptr ck 0 0] :: .row 3 0 [.i i] :: .row 3 0 [.i m] :: .row 86 0 (AL.cl fS (pG cm m j k V z.1))::(R ++ .jb (.gg p) (gH cm j).length z.1::z.2))) (λz=>z.1.Nodup/\(∀t∈z.1,t<(gH cm j).length)/\jO H.length z.2) (λz=>(gH cm j).length-z.1.length) ?_ ?_
   .exact⟨.nil,λ_ h=>(by cases h),λ_ h=>(by cases h)⟩
   rintro⟨seen,Z⟩ ⟨oH,gC,hZ⟩;dsimp only at oH gC hZ ⊢;simp;refine tZ.at (m:=p) (since:=(gH cm j).length) (seen:=seen) (kk:=KS) (es:=iC q 0 (gH cm j)) (by simp) (by simp[A]) (by simp) (λjs=>?_) λt kv dv he hi=>?_
   .have js:∀t,t<(gH cm j).length->t∈seen:=by simpa using js
    simp;refine fD ?_;refine LJ.i (k+1,pG cm m j k V seen,R ++ .jb (.gg p) (gH cm j).length seen::Z) (by simp) (by simp) rfl rfl ?_;refine⟨by dsimp only;omega,ic,by rw[YN k0 (by omega)];exact hV,λi' h0 h1=>?_,λi' h0 h1=>?_,za hR λo b=>?_⟩
    .dsimp only at h1 ⊢
     by_cases e:i'=k
     .subst e;rw[Y];exact alA k0 (by omega) (hs j a.1 a.2) js
     .rw[YO k0 (by omega) h0 e];exact OS i' h0 (by omega)
    .dsimp only at h0 ⊢;rw[YO k0 (by omega) (by omega) (by omega)];exact OT i' (by omega) h1
    .rcases aw.1 b with rfl|b
     .show decide (p<H.length)=true;exact decide_eq_true gX
     .exact hZ o b
   .rw[wP]at he;obtain⟨y,AS,P2⟩:=aj.1 he;cases P2;have S:=MN oH gC (ae.1 AS).1 hi;have N:(iC q 0 (gH cm j))[t]? = some (kX y.1,oI (q t) y.2):=by rw[wP,AS];simp
    have e:(H++(Ob.row 157 0 [.ptr ck 0 0]::Ob.row 3 0 [.i i]::Ob.row 3 0 [.i m]::Ob.row 86 0 (AL.cl fS (pG cm m j k V seen))::(R++Ob.jb (.gg p) (gH cm j).length seen::Z))).set (H.length+(R.length+4)) (.jb (.gg p) (gH cm j).length (seen ++ [t]))=H++(Ob.row 157 0 [.ptr ck 0 0]::Ob.row 3 0 [.i i]::Ob.row 3 0 [.i m]::Ob.row 86 0 (AL.cl fS (pG cm m j k V seen))::(R++Ob.jb (.gg p) (gH cm j).length (seen ++ [t])::Z)):=by simp
    rw[e]
    have vI:(gH cm j).length-(seen ++ [t]).length<(gH cm j).length-seen.length:=by have:=S.2.2;rw[au,cz]at this ⊢;omega
    have iM:=YN (cm:=cm) (m:=m) (j:=j) (seen:=seen) k0 (by omega:k<V.length)
    by_cases h1:(gH cm j).length=1
    .have e1:t=0:=by have:=(ae.1 AS).1;omega
     have tG:seen = []:=aS.2 λu hu=>by have:=gC u hu;rw[show u=t by omega]at hu;exact hi hu
     have hy:y.1=pM (sd cm j):=acT (by
      obtain⟨z,hz⟩:=List.length_eq_one_iff.1 h1;rw[hz,e1]at AS;cases AS
      exact hz)
     subst tG;obtain⟨⟨O,L⟩,ls⟩:=y;dsimp only at hy N
     by_cases f:L<m
     .have hv:pG cm m j k V ([] ++ [t])=pt (pt V k (2,0)) k (O,L):=by unfold pG;rw[if_pos ⟨by simp,h1,by rw[<-hy];exact f⟩,hy]
      have PC:=ND (l:=pt V k (2,0)) (n:=k) O L;simp[A,N,v,E,B,a.1,a.2,h1,f,PC];(with_reducible repeat' first|refine Xk ?_<;>try simp[A,N,v,E,B,a.1,a.2,h1,f,PC]|refine Xs ?_ ?_<;>intro h<;>(try intro h')<;>(try simp[h,A,N,v,E,B,a.1,a.2,h1,f,PC])<;>try omega|refine Xg ?_|omega);rw[alB]at iM;refine⟨by rw[iM];omega,?_⟩;refine LJ.i ([] ++ [t],Z ++ [.row 86 0 [.i O,.i L]]) (by simp) (by rw[hv];simp[h1]) rfl rfl ?_;exact⟨vI,S.1,S.2.1,za hZ λo b=>by rw[List.mem_singleton.1 b];rfl⟩
     .have hv:pG cm m j k V ([] ++ [t])=pt V k (2,0):=by unfold pG;rw[if_neg λh=>f (by have:=h.2.2;rw[<-hy]at this;exact this)]
      simp[A,N,v,E,B,a.1,a.2,h1,f];(with_reducible repeat' first|refine Xk ?_<;>try simp[A,N,v,E,B,a.1,a.2,h1,f]|refine Xs ?_ ?_<;>intro h<;>(try intro h')<;>(try simp[h,A,N,v,E,B,a.1,a.2,h1,f])<;>try omega|refine Xg ?_|omega);refine LJ.i ([] ++ [t],Z ++ [.row 86 0 [.i O,.i L]]) (by simp) (by rw[hv];simp[h1]) rfl rfl ?_;exact⟨vI,S.1,S.2.1,za hZ λo b=>by rw[List.mem_singleton.1 b];rfl⟩
    .have hv:pG cm m j k V (seen ++ [t])=pG cm m j k V seen:=by unfold pG;rw[if_neg λh=>h1 h.2.1,if_neg λh=>h1 h.2.1]
     simp[A,N,v,E,B,a.1,a.2,h1];(with_reducible repeat' first|refine Xk ?_<;>try simp[A,N,v,E,B,a.1,a.2,h1]|refine Xs ?_ ?_<;>intro h<;>(try intro h')<;>(try simp[h,A,N,v,E,B,a.1,a.2,h1])<;>try omega|refine Xg ?_|omega);refine LJ.i (seen ++ [t],Z ++ [.row 86 0 [.i y.1.1,.i y.1.2]]) (by simp) (by simp[hv]) rfl rfl ?_;exact⟨vI,S.1,S.2.1,za hZ λo b=>by rw[List.mem_singleton.1 b];rfl⟩
  have AE:k=x.length:=by omega
  have UX:V=x.map (wN cm m):=by refine bQ (by rw[List.length_map];exact hV) λj j0 j1=>?_;have h:=OS j (by omega) (by omega);rw[jc (by omega) (by omega),jc (l:=x) (by omega) (by omega)]at h;rw[List.getElem_map];exact h
  rw[<-UX]at F C
  have OU:∀r∈V,0<=r.2/\r.2<=4000:=λr hr=>by
   rw[UX]at hr;obtain⟨j,Y,rfl⟩:=aq.1 hr;have a:=gq j Y;unfold wN;split
   .have hf:=z8 (hs j a.1 a.2);have h1:=hp j a.1 a.2 _ hf;have f:=hb j a.1 a.2 _ hf;refine⟨?_,f⟩;unfold kM at h1;simp only[decide_eq_true_eq]at h1;rcases h1 with e|e
    .rw[e];decide
    .exact e.2
   .exact⟨by decide,by decide⟩
  have a':=abG V (by omega) (by omega) OU;obtain⟨r,hr⟩:∃r,nX V=r:=⟨_,rfl⟩;rw[hr]at a' F C;obtain⟨O,L⟩:=r;dsimp only at a' F C;simp[hk];refine fD ?_;refine Yr a' ?_ rfl rfl (by simp[hV]) (by simp[flat,tB]) (by simp)
  have hG:jO H.length (Ob.row 3 0 [.i m]::Ob.row 86 0 (AL.cl fS V)::(R ++ [Ob.row 86 0 [.i O,.i L]])):=λo b=>by
   rcases aw.1 b with rfl|b
   .rfl
   .rcases aw.1 b with rfl|b
    .exact Gh _
    .rcases List.mem_append.1 b with b|b
     .exact hR o b
     .rw[List.mem_singleton.1 b];rfl
  by_cases f:O=2
  .subst f;have C:=C rfl;simp;refine fD ?_;refine fY.w (by simp;rfl) ?_;refine fY.lW rfl rfl (N8 (H:=H++(.row 157 0 [.ptr ck 0 0] :: .row 3 0 [.i i] :: .row 3 0 [.i m] :: .row 86 0 (AL.cl fS V)::(R ++ [.row 86 0 [.i 2,.i L]]))) (J.app _) (wV _ hG) (kT X) po h8 i0 I (EY i i0 I) (w:=λr=>decide (r.1≠2/\r.2=m)) λr dst s K jY k'=>?_) ?_
   .have hb:=jY (H.length+2) (.row 3 0 [.i m]) (by simp);exact Yr (abS r m) k' rfl rfl (by simp[hb])
   .rintro _ H' ⟨rfl,rfl⟩;rw[Lq _ C];simp[y4 fG]
  .have F:=F f;simp[f];refine jw f ?_;have Eh:=T1 (H:=H++(.row 157 0 [.ptr ck 0 0] :: .row 3 0 [.i i] :: .row 3 0 [.i m] :: .row 86 0 (AL.cl fS V)::(R ++ [.row 86 0 [.i O,.i L]]))) (J.app _) (wV _ hG) (kT X) po h8 i0 I (EY i i0 I) (t2:=H.length) (t3:=H.length+1) (by simp) (by simp) (O,L);rw[Lq _ F]at Eh;refine fY.w (by simp;rfl) ?_;refine fY.lW rfl rfl Eh ?_;rintro _ H' ⟨rfl,rfl⟩;simp[y4 fG]
 .have uO:=uO rfl;have Eh:=T1 (H:=H ++ [.row 157 0 [.ptr ck 0 0],.row 3 0 [.i i]]) (J.app _) (wV [] λ_ h=>by cases h) (kT X) po h8 i0 I (EY i i0 I) (t2:=H.length) (t3:=H.length+1) (by simp) (by simp) (o,0);rw[Lq _ uO]at Eh;simp;refine fD ?_;refine fY.w (by simp;rfl) ?_;refine fY.lW rfl rfl Eh ?_;rintro _ H' ⟨rfl,rfl⟩;simp[y4 fG]
end
end Go.Proofs.YtmehofoficaelaaGreatDoor
namespace Go.Proofs.YtmehofoficaelaaGreatDoor
open Go Go.AL Classical
set_option maxRecDepth 10000
set_option maxHeartbeats 16000000
attribute [-simp] rQ
section
variable{H:U}{ck sr n:Nat}{M:Nat->jK}{ow:Nat->Nat×Nat×Nat}{P:Nat->Nat}{Q:Nat->Nat->Nat}
theorem abB{p:Nat}{kk:KK}{es:List (Value×D)}(a:H[p]? = some (.map kk es)):Wf T 118 [.gg p] H (λd H'=>d = .b (decide (es.length=0))/\H'=H):=by refine Yg HG ?_;simp[HG,a]
theorem abQ(i:mh H ck sr n M ow P Q)(o:n<=1000):Wf T 185 [.fy sr 0 1 0 n,.fn (.func 118) [] []] H (λd H'=>∃v:Int,d = .i v/\H'=H/\(0<=v↔∃j,j<n/\(M j).length=0)):=by
 have k:=i.row;refine Yg HT ?_;simp[HT];refine fO.e (0:Int) (λy=>[(0,.fy sr 0 1 0 n),(1,.fn (.func 118) [] []),(7,.i n),(8,.i y)]) (λy=>H) (λy=>(0<=y/\y<=n)/\∀j,j<y.toNat->(M j).length≠0) (λy=>(n-y).toNat) ?_ ?_
 .exact⟨by simp,λj c=>absurd c (by simp)⟩
 rintro y ⟨⟨g,l⟩,f⟩;dsimp only at g l f ⊢
 by_cases b:y<n
 .obtain⟨m,_⟩:=i.mp y.toNat (by omega);have a:y.toNat<n:=by omega
  simp[b,k,a];refine pe b k a ?_;refine fY.lW rfl rfl (abB (H:=H) m) ?_;rintro _ H' ⟨rfl,rfl⟩;rw[zU]
  by_cases h0:(M y.toNat).length=0
  .rw[decide_eq_true h0];simp;refine fD ?_;exact⟨λ_=>⟨y.toNat,a,az.1 h0⟩,λ_=>g⟩
  .rw[decide_eq_false h0];simp;refine fD ?_;refine LJ.i (y+1) (by simp) rfl rfl rfl ⟨by omega,ic,λj c=>?_⟩
   by_cases e:j=y.toNat
   .rw[e];exact h0
   .exact f j (by omega)
 .simp[b];refine fD ?_;exactλj c h=>f j (by omega) (by rw[h];rfl)
theorem abA(a:mh H ck sr n M ow P Q)(c:n<=1000):Wf T 117 [.fy sr 0 1 0 n,.fn (.func 118) [] []] H (λd H'=>d = .b (decide (∃j,j<n/\(M j).length=0))/\H'=H):=by refine Yg HE ?_;simp[HE];refine fY.lW rfl rfl (abQ a c) ?_;rintro _ H' ⟨v,rfl,rfl,b⟩;simp;simpa using b
theorem mh.akN(h:mh H ck sr n M ow P Q){v:Nat}(f:ow v=(5,0,0))(o:Ob):mh (H.set v o) ck sr n M ow P Q:=by
 have key:∀(w:Nat) (x:Ob),H[w]? = some x->ow w≠(5,0,0)->(H.set v o)[w]? = some x:=λw x d g=>by rw[bR (λe=>g (by rw[<-e];exact f))];exact d
 refine⟨h.fc,h.fs,key _ _ h.row (by rw[h.fs];simp),λj b=>?_,λj b t x c=>?_⟩
 .obtain⟨h1,a⟩:=h.mp j b;exact⟨key _ _ h1 (by rw[a];simp),a⟩
 .obtain⟨h1,a⟩:=h.ls j b t x c;exact⟨key _ _ h1 (by rw[a];simp),a⟩
end
@[simp] theorem aos(cl:List gp):kl cl 0 = -1:=rfl
theorem Zr(cl:List gp){y:Int}(a:0<=y):kl cl (y+1).toNat=zD cl (kl cl y.toNat) y:=by rw[show(y+1).toNat=y.toNat+1 by omega];unfold kl;rw[G7,List.foldl_append,show((y.toNat:Nat):Int)=y by omega];rfl
def Y9(N:Nat)(H:U)(ls:List Int)(d:D):Prop:=d=dN 1 f1 ls\/(ls≠[]/\∃v g,d = .fy v g 1 0 ls.length/\H[v]? = some (.row 3 g (cl f1 ls))/\N<=v)
def VD(N:Nat)(H:U)(d:D):Jd->Prop
 | .v a ls=>∃x,d = .tup [.agg [.i a,x],.i 0]/\Y9 N H ls x
 | .none=>d = .tup [.agg [.i 0,.fJ],.i 270]
 | .uj=>d = .tup [.agg [.i 0,.fJ],.i 180]
structure JP(g:fH)(l:List Pos)(nx:List (List Int))(jg:D)(cm:List gp)(H H':U)(ck:Nat)(J:Jd)(d:D):Prop where
 vd:VD H.length H' d J
 ok:jO H'.length H'
 kp:∀v o,H[v]? = some o->v≠ck->H'[v]? = some o
 ct:∃sr,H'[ck]? = some (.row 168 0 (mZ g l nx jg (.fy sr 0 1 0 l.length)))/\(J = .none->∃ow P Q,mh H' ck sr l.length (λj:Nat=>gH cm (j:Int)) ow P Q/\∀v o,H[v]? = some o->v≠ck->ow v=(5,0,0))
theorem abq(g:fH)(hg:gF g)(l:List Pos)(A:oR g l)(h0:0<l.length)(h9:l.length<=1000){H:U}{ck:Nat}{L:List Cw}{old V:D}(hd:CV H ck L V)(fG:jO H.length H)
  (lI:H[ck]? = some (.row 168 0 (mZ g l (gd g l) V old))) (hL:∀x∈L,x.ok) (hb:∀x∈L,∀r∈x.c.es,r.2<=4000) (h8:L.length<=100000) :
  Wf T 64 [.ptr ck 0 0] H (λd H'=>JP g l (gd g l) V (cs L) H H' ck (lX (lQ g l (gd g l)) l.length (iY l.length) (cs L)) d):=by
 have E7:=aaE L;have EV:=@aed (lQ g l (gd g l)) l.length (iY l.length) (cs L);have S:=@aeh (lQ g l (gd g l)) l.length (iY l.length) (cs L);have E:=@aei (lQ g l (gd g l)) l.length (iY l.length) (cs L);have f:=@aee (lQ g l (gd g l)) l.length (iY l.length) (cs L);obtain⟨J,hJ⟩:∃J,lX (lQ g l (gd g l)) l.length (iY l.length) (cs L)=J:=⟨_,rfl⟩;rw[hJ]at EV S E f ⊢;rw[E7]at EV S E f;have xc:jO (H ++ [Ob.row 89 0 [.i 0,.fJ]]).length (H ++ [Ob.row 89 0 [.i 0,.fJ]]):=QH fG rfl λo ho=>by rw[List.mem_singleton.1 ho];rfl
 have U6:=mS lI;refine Yg Hv ?_;simp[Hv];refine fY.lW rfl rfl (abz (H:=H ++ [.row 89 0 [.i 0,.fJ]]) (hd.app _) xc (kT lI) hL h8 h9 h0) ?_;rintro d H1 ⟨ow,P,Q,q⟩;obtain⟨m,h5⟩:=q.kp H.length (.row 89 0 [.i 0,.fJ]) (by simp) (by omega);obtain⟨bad,Ap⟩:∃bad,jI (λc => !iY l.length c) (cs L) L.length=bad:=⟨_,rfl⟩;rw[Ap]at q EV S E f;have O:=q.ct
 have R:H1[ck]? = some (.row 168 0 [.i g.size,.sl 1 (g.next.map fI),dI g.iX,.sl 3 (g.kinds.map Kind.cells),.i g.gj,.b g.nJ,dN 4 Clause.cells g.clauses,.i g.blocked,.i g.uk,gJ l,.sl 1 ((gd g l).map fN),V,.fy (H ++ [Ob.row 89 0 [.i 0,.fJ]]).length 0 1 0 l.length]):=by rw[O];unfold mZ;simp
 obtain⟨sr,VM⟩:∃sr,(H ++ [Ob.row 89 0 [.i 0,.fJ]]).length=sr:=⟨_,rfl⟩;rw[VM]at q O R;have px:∀v o,H[v]? = some o->v≠ck->H1[v]? = some o:=λv o M A=>(q.kp v o (kT M) A).1
 have km:∀(x:Ob),n9 H1.length x=true->jO (H1.set H.length x).length (H1.set H.length x)/\(∀v o,H[v]? = some o->v≠ck->(H1.set H.length x)[v]? = some o)/\(H1.set H.length x)[ck]? = some (.row 168 0 (mZ g l (gd g l) V (.fy sr 0 1 0 l.length))):=λx c0=>by
  refine⟨by rw[aF];exact A' q.ok c0,λv o M A=>?_,?_⟩
  .rw[bR (by have:=mS M;omega)];exact px v o M A
  .rw[bR (by omega)];exact O
 rcases q.bd with⟨sL,rfl⟩|⟨uz,v,gn,rfl,pO,uA⟩
 .have wU:∀x∈L,iY l.length x.c=true:=λx G=>by
   have b:=Ap;rw[sL,<-E7,tJ]at b
   cases e:iY l.length x.c with
   | true=>rfl
   | false=>exact absurd b (AV.2 ⟨x.c,aq.2 ⟨x,G,rfl⟩,by simp[e]⟩)
  have c6:hM (iY l.length) (cs L) L.length=λj:Nat=>gH (cs L) (j:Int):=funext λj=>by
   rw[<-E7]
   exact ac1 (λc A=>by
    obtain⟨x,G,rfl⟩:=aq.1 A
    exact wU x G) j
  have C:=q.sg;rw[c6]at C;have ZN:=abA C h9;have po:(mZ g l (gd g l) V (.fy sr 0 1 0 l.length))[12]? = some (.fy sr 0 1 0 l.length):=by unfold mZ;simp
  have c7:∀x∈L,x.full:=λx G=>⟨hL x G,λ_=>by
   have:=wU x G;unfold iY at this;rw[Bool.and_eq_true]at this
   exact(Rv this.1).2.2⟩
  have c1:∀j:Int,0<=j->j<l.length->∀r∈sd (cs L) j,r.2<=4000:=λj _ _ r hr=>by obtain⟨c,A,h1,rfl⟩:=rA.1 hr;obtain⟨x,G,rfl⟩:=aq.1 A;obtain⟨_,j0,j1⟩:=Cw.acL (c7 x G) h1;exact hb x G _ (fZ (by omega) j1)
  have S:=@S sL;have E:=@E sL;have f:=f sL;have Z:∀j:Int,0<=j->gH (cs L) ((j.toNat:Nat):Int)=gH (cs L) j:=λj j0=>by rw[show((j.toNat:Nat):Int)=j by omega]
  have t:∀o,(H1.set H.length o)[H.length]? = some o:=λo=>aY (mS m);simp[R];refine jw R ?_;refine fY.lW rfl rfl ZN ?_;rintro _ H' ⟨rfl,rfl⟩
  by_cases he:∃j,j<l.length/\(gH (cs L) ((j:Nat):Int)).length=0
  .rw[decide_eq_true he];obtain⟨j,hj,qk⟩:=he;have W:=@S (j:Int) (by omega) (by omega) (Ov.1 qk);subst W;simp[m,t];refine ku m t ?_;obtain⟨f1,f2,f3⟩:=km (.row 89 0 [.i 0,.fJ]) rfl;exact⟨rfl,f1,f2,sr,f3,λh=>by cases h⟩
  .rw[decide_eq_false he];have hs:∀j:Int,0<=j->j<l.length->sd (cs L) j≠[]:=λj j0 j1 h=>he ⟨j.toNat,by omega,by rw[Z j j0];exact Ov.2 h⟩;have E:=@E hs;have f:=f hs;have UK:(cs L).length<=100000:=by rw[E7];exact h8
   clear he EV S;simp[R];refine jw R ?_;refine fO.e (0:Int) (λy=>[(0,.ptr ck 0 0),(2,.ptr H.length 0 0),(27,.i l.length),(28,.i y)]) (λy=>H') (λy=>(0<=y/\y<=l.length)/\∀j:Int,0<=j->j<y->imp (cs L) j = []) (λy=>(l.length-y).toNat) ?_ ?_
   .exact⟨by simp,λj j0 j1=>by omega⟩
   rintro y ⟨⟨z,y1⟩,Y⟩;dsimp only at z y1 Y ⊢
   by_cases p:y<l.length
   .have B6:=N8 (H:=H') C q.ok O po UK z (by omega) (Z y z) (w:=λr => !kM r) λr dst s K _ k=>Yc (abC r) k;obtain⟨I,X⟩:∃I,imp (cs L) y=I:=⟨_,rfl⟩;have d':jI (λc=>ie c y && !kM (iW c y)) (cs L) (cs L).length=I:=X;rw[d']at B6;simp[p];refine fD ?_;refine fY.lW rfl rfl B6 ?_;rintro _ H2 ⟨rfl,rfl⟩
    by_cases hz:I = []
    .have pN:∀j:Int,0<=j->j<y+1->imp (cs L) j = []:=λj j0 j1=>by
      by_cases e:j=y
      .rw[e,X,hz]
      .exact Y j j0 (by omega)
     subst hz;simp;refine fD ?_;refine LJ.i (y+1) (by simp) rfl rfl rfl ⟨by omega,ic,pN⟩
    .have W:=E z p (by rw[X];exact hz) Y;rw[X]at W;subst W;have jM:0<I.length:=av.2 hz;simp[m,t,jM];refine pe m t jM ?_;obtain⟨f1,f2,f3⟩:=km (.row 89 0 [.i y,dN 1 f1 I]) (by simp);exact⟨⟨_,rfl,.inl rfl⟩,f1,f2,sr,f3,λh=>by cases h⟩
   have vU:y=l.length:=by omega
   subst vU;have hp:∀j:Int,0<=j->j<l.length->∀r∈sd (cs L) j,kM r=true:=λj j0 j1=>imp_nil (Y j j0 j1);have f:=f Y;clear E Y z y1 p;simp[R];refine jw R ?_;have N:=C.row;refine fO.e (0:Int) (λy=>[(0,.ptr ck 0 0),(2,.ptr H.length 0 0),(7,.i (kl (cs L) y.toNat)),(44,.fy sr 0 1 0 l.length),(45,.i l.length),(46,.i y)]) (λy=>H') (λy=>0<=y/\y<=l.length) (λy=>(l.length-y).toNat) ?_ ?_
   .simp
   rintro y ⟨z,y1⟩;dsimp only at z y1 ⊢
   by_cases p:y<l.length
   .have B:y.toNat<l.length:=by omega
    have F:H'[P y.toNat]? = some (.map KS (iC (Q y.toNat) 0 (gH (cs L) y))):=by have:=(C.mp y.toNat B).1;rw[Z y z]at this;exact this
    have hS:=Zr (cs L) z
    have gq:0<=kl (cs L) y.toNat->kl (cs L) y.toNat<l.length:=λh=>by have:=(SH (n:=y.toNat) h).1;omega
    obtain⟨a,ha⟩:∃a,kl (cs L) y.toNat=a:=⟨_,rfl⟩;rw[ha]at hS gq ⊢;unfold zD at hS
    by_cases h1:1<(gH (cs L) y).length
    .have Va:=Le.1 h1
     by_cases b:a<0
     .rw[if_pos ⟨Va,.inl b⟩]at hS;simp[p,N,B,F,h1,b];(with_reducible repeat' first|refine Xk ?_<;>try simp[p,N,B,F,h1,b]|refine Xs ?_ ?_<;>intro h<;>(try intro h')<;>(try simp[h,p,N,B,F,h1,b])<;>try omega|refine Xg ?_|omega);refine LJ.i (y+1) (by simp[hS]) rfl rfl rfl mr
     .have S4:=N9 (H:=H') C q.ok O po z (by omega) (Z y z) (hp y z p);have S5:=N9 (H:=H') C q.ok O po (by omega:0<=a) (by have:=gq (by omega);omega) (Z a (by omega)) (hp a (by omega) (gq (by omega)));obtain⟨u,hu⟩:∃u,lL (sd (cs L) y)=u:=⟨_,rfl⟩;obtain⟨v,M⟩:∃v,lL (sd (cs L) a)=v:=⟨_,rfl⟩;rw[hu]at S4;rw[M]at S5;rw[hu,M]at hS;simp[p,N,B,F,h1,b];(with_reducible repeat' first|refine Xk ?_<;>try simp[p,N,B,F,h1,b]|refine Xs ?_ ?_<;>intro h<;>(try intro h')<;>(try simp[h,p,N,B,F,h1,b])<;>try omega|refine Xg ?_|omega);refine fY.lW rfl rfl S4 ?_;rintro _ H2 ⟨rfl,rfl⟩;simp;refine fY.lW rfl rfl S5 ?_;rintro _ H2 ⟨rfl,rfl⟩
      by_cases h3:u<v
      .rw[if_pos ⟨Va,.inr h3⟩]at hS;simp[h3];refine jw h3 ?_;refine LJ.i (y+1) (by simp[hS]) rfl rfl rfl mr
      .rw[if_neg (λh=>by rcases h.2 with h|h<;>omega)]at hS;simp[h3];refine jw h3 ?_;refine LJ.i (y+1) (by simp[hS]) rfl rfl rfl mr
    .rw[if_neg (λh=>h1 (Le.2 h.1))]at hS;simp[p,N,B,F,h1];(with_reducible repeat' first|refine Xk ?_<;>try simp[p,N,B,F,h1]|refine Xs ?_ ?_<;>intro h<;>(try intro h')<;>(try simp[h,p,N,B,F,h1])<;>try omega|refine Xg ?_|omega);refine LJ.i (y+1) (by simp[hS]) rfl rfl rfl mr
   have vU:y=l.length:=by omega
   subst vU;rw[bU];have hD:=@SH (cs L) l.length;have Eg:=λi=>abE g hg l A rfl C q.ok O UK (i:=i);obtain⟨a,ha⟩:∃a,kl (cs L) l.length=a:=⟨_,rfl⟩;rw[ha]at f hD ⊢
   by_cases b:a<0
   .rw[if_pos b]at f;subst f;simp[b,m,t];refine pe b m t ?_;obtain⟨f1,f2,f3⟩:=km (.row 89 0 [.i 0,.fJ]) rfl;exact⟨rfl,f1,f2,sr,f3,λ_=>⟨ow,P,Q,C.akN h5 _,λv o M A=>(q.kp v o (kT M) A).2⟩⟩
   .rw[if_neg b]at f;have hD:=hD (by omega);have Eg:=Eg a (by omega) hD.1 (λj hj=>rfl) hp c1 hs;rw[E7]at Eg;obtain⟨I,X⟩:∃I,jI (oQ (lQ g l (gd g l)) (cs L) a) (cs L) L.length=I:=⟨_,rfl⟩;rw[X]at Eg f;subst f;simp[b,m,t];refine pe b m t ?_;refine fY.lW rfl rfl Eg ?_;rintro _ H2 ⟨rfl,rfl⟩;simp[m,t];refine ku m t ?_;obtain⟨f1,f2,f3⟩:=km (.row 89 0 [.i a,dN 1 f1 I]) (by simp);exact⟨⟨_,rfl,.inl rfl⟩,f1,f2,sr,f3,λh=>by cases h⟩
 .have jM:0<bad.length:=av.2 uz;have t:∀o,(H1.set H.length o)[H.length]? = some o:=λo=>aY (mS m);have W:=EV uz;subst W;have iM:=mS pO;obtain⟨f1,f2,f3⟩:=km (.row 89 0 [.i (-1),.fy v gn 1 0 bad.length]) (by simp[iM]);simp[m,t];refine ku m t ?_
  have c5:H.length<=v:=by
   refine eV λgC=>?_
   by_cases e:v=ck
   .rw[e,O]at pO;simp at pO
   .have:=(q.kp v _ (kT (List.getElem?_eq_getElem gC)) e).2;rw[uA]at this;simp at this
  exact⟨⟨_,rfl,.inr ⟨uz,v,gn,rfl,by rw[bR (λe=>by rw[<-e,h5]at uA;simp at uA)];exact pO,c5⟩⟩,f1,f2,sr,f3,λh=>by cases h⟩
