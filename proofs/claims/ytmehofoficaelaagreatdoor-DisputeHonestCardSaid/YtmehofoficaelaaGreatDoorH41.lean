/- Part 41 of DisputeHonest. -/
import Derived.Test.YtmehofoficaelaaGreatDoorH40
set_option linter.all false
namespace Go.Proofs.YtmehofoficaelaaGreatDoor
open Go Go.AL Classical
set_option maxRecDepth 10000
set_option maxHeartbeats 16000000
attribute [-simp] uZ
def mN(g:fu)(l:List Pos)(nx:List (List Int))(a sd:D):List D:=g.cells ++ [gC l,.sl 1 (nx.map fN),a,sd]
theorem qJ{H:U}{v:Nat}{o:Ob}(h:H[v]? = some o):H.set v o=H:=by obtain⟨h1,a⟩:=ae.1 h;rw[<-a,dQ]
theorem ab8{p:gx->Bool}{s:gx->fq}{cl:List gx}{n t:Nat}{r:fq}{x:List Int}(h:mS r (oc p s cl n)=some (t,x)):x.length<=n:=by obtain⟨h1,_⟩:=xW (k:=0) h;rw[(N0 (List.mem_of_getElem? h1)).1];exact AB _ _ ((Ap _ _ _).imp λh e=>by omega) λk a=>(yy.1 a).1
theorem ab9{p:gx->Bool}{s:gx->fq}{cl:List gx}{n t:Nat}{r:fq}{x:List Int}(h:mS r (oc p s cl n)=some (t,x)):x≠[]:=by obtain⟨h1,_⟩:=xW (k:=0) h;exact(N0 (List.mem_of_getElem? h1)).2
theorem Ue{L:List Cw}{k:Int}(k0:0<=k)(a:k<L.length):gt (cs L) k=(gt L k).c:=by unfold cs;rw[jh k0 (by rw[List.length_map];exact a),jh k0 a,List.getElem_map]
theorem FL{n t g:Nat}{cs:List D}(h:fR cs=true):nP n (.row t g cs)=true:=List.all_eq_true.2 λd a=>Mp (lD h d a)
def CV(H:U)(ck:Nat)(L:List Cw)(a:D):Prop:=
 a = .sl 36 (L.map gS)\/(L = []/\a = .fw)\/∃v g,v≠ck/\a = .fm v g 36 0 L.length/\H[v]? = some (.row 72 g (cl gS L))
theorem CV.len{H:U}{ck:Nat}{L:List Cw}{a:D}(h:CV H ck L a)(H':U):mB .slice a H'=some (.i L.length):=by
 rcases h with rfl|⟨rfl,rfl⟩|⟨v,g,_,rfl,_⟩
 .simp
 .rfl
 .simp
theorem CV.ix{H:U}{ck:Nat}{L:List Cw}{c:D}(h:CV H ck L c){k:Int}(k0:0<=k)(a:k<L.length) :
  ∃p,lV 36 c (.i k)=some p/\∀H':U,(∀(v:Nat) (o:Ob),H[v]? = some o->v≠ck->H'[v]? = some o)->uw 36 p H'=some (.agg ((gS (gt L k)).take 36)):=by
 have b:(gS (gt L k)).length=36:=Fl.len _;rcases h with rfl|⟨rfl,rfl⟩|⟨v,g,hc,rfl,hv⟩
 .refine⟨.fH (gS (gt L k)),?_,λH' _=>?_⟩
  .unfold lV;dsimp only;rw[if_pos ⟨rfl,k0,by rw[List.length_map];exact a⟩,jh k0 a];simp[List.getD,List.getElem?_eq_getElem (show k.toNat<L.length by omega)]
  .simp[b]
 .simp at a;omega
 .refine⟨.ptr v g (k.toNat*36),?_,λH' d=>?_⟩
  .simp[k0,a]
  .have:=d v _ hv hc;have e:k.toNat<L.length:=by omega
   simp[this,e,b]
theorem CV.app{H:U}{ck:Nat}{L:List Cw}{a:D}(h:CV H ck L a)(G:U):CV (H++G) ck L a:=by
 rcases h with h|h|⟨v,g,c,e,b⟩
 .exact .inl h
 .exact .inr (.inl h)
 .exact .inr (.inr ⟨v,g,c,e,ln b⟩)
theorem aaT{H:U}{ck:Nat}{g:fu}{l:List Pos}{nx:List (List Int)}{L:List Cw}{old q:D}(hd:CV H ck L q)(ft:jC H.length H)(O:H[ck]? = some (.row 168 0 (mN g l nx q old)))(hL:∀x∈L,x.ok)(h8:L.length<=100000)(h9:l.length<=1000)(h0:0<l.length) :
  Wf T 116 [.ptr ck 0 0] H (λd H'=>∃ow P Q,HI H H' ck H.length l.length (.row 168 0 (mN g l nx q (.fm H.length 0 1 0 l.length))) (hM (iP l.length) (cs L) L.length) (jx (λc => !iP l.length c) (cs L) L.length) d none ow P Q):=by
 have qp:=mG O;have UM:=hd.len;have iz:kh (H.length+1) q=true:=Gd (by omega) (List.all_eq_true.1 (ft _ (List.mem_of_getElem? O)) q (by unfold mN;simp));have hG:GH H ck:=⟨qp,ft⟩;have p7:∀R o,(H++R).set ck o=H.set ck o++R:=λR o=>bk _ _ qp;have K3:∀R:U,(H++R)[ck]? = some (.row 168 0 (mN g l nx q old)):=λR=>ln O;have hz:=ajV H.length l.length;obtain⟨C,hC⟩:∃C,Ob.row 168 0 (mN g l nx q (.fm H.length 0 1 0 l.length))=C:=⟨_,rfl⟩
 have g3:nP (H.length+1) C=true:=by rw[<-hC];unfold mN;simp[iz]
 have fG:=HI.start (n:=l.length) ft O g3;rw[hC];have BO:C = .row 168 0 (g.cells ++ [gC l,.sl 1 (nx.map fN),q,.fm H.length 0 1 0 l.length]):=hC.symm;have Uk:∀sd,(Ob.row 168 0 [.i g.size,.sl 1 (g.next.map fI),dI g.iO,.sl 3 (g.kinds.map Kind.cells),.i g.fY,.b g.nL,dN 4 Clause.cells g.clauses,.i g.blocked,.i g.u4,gC l,.sl 1 (nx.map fN),q,sd]) = .row 168 0 (mN g l nx q sd):=λsd=>by unfold mN;simp
 have I:∀(o:Ob) (R:U),(H.set ck o++R)[ck]? = some o:=λo R=>hG.ln;have K2:∀(o:Ob) (R:U),(H.set ck o++R)[H.length]? = R[0]? := λo R=>hG.ab6;have pB:∀(o o':Ob) (R:U),(H.set ck o++R).set H.length o'=H.set ck o++R.set 0 o':=λo o' R=>hG.akb;refine Yg G7 ?_;simp[G7,O,K3,p7,mN,<-hz,I];(with_reducible repeat' first|refine Xk ?_<;>try simp[O,K3,p7,mN,<-hz,I]|refine Xs ?_ ?_<;>intro h<;>(try intro Z)<;>(try simp[h,O,K3,p7,mN,<-hz,I])<;>try omega|refine Xg ?_|omega);refine fE.s (by simp[K3,p7,mN];rfl) ?_;rw[Uk,hC];refine fE.e (0:Int) (λy=>[(0,.ptr ck 0 0),(3,.fw),(23,.i l.length),(24,.i y)]) (λy=>H.set ck C++(.row 170 0 (ox H.length l.length y.toNat)::List.replicate y.toNat (.map KS []))) (λy=>0<=y/\y<=l.length) (λy=>(l.length-y).toNat) ?_ ?_
 .simp
 rintro y ⟨y0,y1⟩;dsimp only at y0 y1 ⊢
 by_cases hy:y<l.length
 .have tf:=ajX (b:=H.length) (n:=l.length) (k:=y.toNat) (by omega);have gR:=XE H.length l.length y.toNat;simp[hy,I,K2,pB,BO,gR];(with_reducible repeat' first|refine Xk ?_<;>try simp[hy,I,K2,pB,BO,gR]|refine Xs ?_ ?_<;>intro h<;>(try intro Z)<;>(try simp[h,hy,I,K2,pB,BO,gR])<;>try omega|refine Xg ?_|omega)
  have e8:pt (ox H.length l.length y.toNat) y (.fV (H.length+(y.toNat+1)))=ox H.length l.length (y.toNat+1):=by rw[<-tf];unfold pt;simp[show(y+1).toNat=y.toNat+1 by omega]
  refine LJ.i (y+1) (by simp) ?_ rfl rfl mb;rw[e8,Uk,hC,show(y+1).toNat=y.toNat+1 by omega,dX];rfl
 have E8:y=l.length:=by omega
 subst E8;obtain⟨ow,P,Q,a⟩:=fG;rw[b9];obtain⟨H1,zF⟩:∃H1,H.set ck C++(.row 170 0 (ox H.length l.length l.length)::List.replicate l.length (.map KS []))=H1:=⟨_,rfl⟩;rw[zF]at a ⊢;have B:=a.ct;rw[BO]at B;clear zF I K2 pB hy y0 y1;simp[B,UM];refine kl B UM ?_;refine fE.e ((H1,0,[],.fw):U×Int×List Int×D) (λy=>[(0,.ptr ck 0 0),(3,y.2.2.2),(38,q),(39,.i L.length),(40,.i y.2.1)]) (λy=>y.1) (λy=>(0<=y.2.1/\y.2.1<=L.length)/\y.2.2.1=jx (λc => !iP l.length c) (cs L) y.2.1.toNat/\y.2.2.1.length<=y.2.1.toNat/\∃ow P Q,HI H y.1 ck H.length l.length C (hM (iP l.length) (cs L) y.2.1.toNat) y.2.2.1 y.2.2.2 none ow P Q) (λy=>(L.length-y.2.1).toNat) ?_ ?_
 .exact⟨by simp,rfl,by simp,ow,P,Q,a⟩
 clear a B;rintro⟨Hc,k,bad,Nr⟩ ⟨⟨k0,k1⟩,zO,kP,ow,P,Q,a⟩;dsimp only at k0 k1 zO kP a ⊢
 by_cases Y:k<L.length
 .obtain⟨pp,yf,sx⟩:=hd.ix k0 Y;have sx:=sx Hc λv o hv hc=>(a.kp v o hv hc).1;have V:=hL _ (fM k0 Y);have c1:=aaG (gt L k) V;have F:=adv (p:=λc => !iP l.length c) k0 Y;rw[<-zO]at F;have tZ:=D8 V;rw[<-tZ]at c1;have u:(gS (gt L k)).length=36:=Fl.len _;have gd:fR (gS (gt L k))=true:=Fl.cl _;have s:(gS (gt L k)).take 36=gS (gt L k):=af (by omega);have B:=a.ct;rw[BO]at B;have A:∀R:U,(Hc++R)[ck]? = some (.row 168 0 (g.cells ++ [gC l,.sl 1 (nx.map fN),q,.fm H.length 0 1 0 l.length])):=λR=>ln B;obtain⟨p,hp⟩:∃p,snd (gt L k).c=p:=⟨_,rfl⟩;rw[hp]at c1;simp[Y,yf,sx];refine Bl u s yf sx ?_;simp[u,s];refine iy.c rfl rfl c1 (by simp[gd]) (by simp) ?_;have w:iP l.length (gt L k).c=(p&&decide ((gt L k).c.hi<=l.length)):=by unfold iP;rw[hp]
  have E:gS (gt L k)=D.i (gt L k).c.who::D.i (gt L k).c.lo::D.i (gt L k).c.hi::dE (gt L k).em (gt L k).c.es::cl fU (gt L k).c.root:=by rw[tZ];unfold Cw.cells;rfl
  have EF:(k.toNat:Int)=k:=by omega
  have KT:iP l.length (gt L k).c=false->hM (iP l.length) (cs L) (k+1).toNat=hM (iP l.length) (cs L) k.toNat:=λh=>by rw[show(k+1).toNat=k.toNat+1 by omega];refine acm ?_;rw[EF,Ue k0 Y];exact h
  cases p
  .rw[Bool.false_and]at w;simp only[w,Bool.not_false,if_true]at F
   have hX:(gS (gt L k)).take 36++(D.i 0::D.i 0::D.i 0::D.fw::AL.cl fU (zs 32)).drop (min 36 (gS (gt L k)).length)=gS (gt L k):=by rw[s,u];simp
   simp[u,s];refine kl u s ?_;rcases a.bd with⟨rfl,rfl⟩|⟨zN,v,gn,rfl,M,ve⟩
   .simp;refine fo ?_;refine LJ.i (_,k+1,[k],.fm (Hc.length+2) 0 1 0 1) (by simp) rfl rfl rfl ?_;refine⟨by dsimp only;omega,ie,F.symm,by simp;omega,?_⟩;dsimp only;rw[KT w,hX];have m:=(a.more (o:=.row 72 0 (gS (gt L k))) (FL gd) (7,0,0)).more (o:=.row 3 0 [.i k]) rfl (7,0,0);obtain⟨nQ,BS⟩:=m.Sh k;exact⟨nQ,P,Q,by simpa[pI,iF]using BS⟩
   .have x7:∀R:U,(Hc++R)[v]? = some (.row 3 gn (AL.cl f1 bad)):=λR=>ln M;have Et:∀(R:U) (o:Ob),(Hc++R).set v o=Hc.set v o++R:=λR o=>bk _ _ (mG M);simp[x7,Et];refine kl x7 Et ?_;refine LJ.i (_,k+1,bad ++ [k],.fm v (gn+1) 1 0 (bad.length+1)) (by simp) rfl rfl rfl ?_;refine⟨by dsimp only;omega,ie,F.symm,by simp;omega,?_⟩;dsimp only;rw[KT w,hX];have m:=((a.Si (k:=k) zN M ve).more (o:=.row 72 0 (gS (gt L k))) (FL gd) (7,0,0)).more (o:=.row 3 0 [.i k]) rfl (7,0,0);exact⟨_,P,Q,by simpa using m⟩
  .rw[dH]at w
   by_cases zX:(gt L k).c.hi<=l.length
   .rw[decide_eq_true zX]at w;simp only[w,Bool.not_true,bp,if_false]at F;have G:¬(l.length:Int)<(gt L k).c.hi:=by omega
    have EZ:=Ms hp
    have hX:(gS (gt L k)).take 36++(D.i 0::D.i 0::D.i 0::D.fw::AL.cl fU (zs 32)).drop (min 36 (gS (gt L k)).length)=gS (gt L k):=by rw[s,u];simp
    have om:=Np V.em
    have UA:(gt L k).c.root.take 32++(zs 32).drop (min 32 (gt L k).c.root.length)=(gt L k).c.root:=by rw[V.root,af (by rw[V.root];omega)];simp
    simp[u,s,hX,E,A,G];(with_reducible repeat' first|refine Xk ?_<;>try simp[u,s,hX,E,A,G,om]|refine Xs ?_ ?_<;>intro h<;>(try intro Z)<;>(try simp[h,u,s,hX,E,A,G,om])<;>try omega|refine Xg ?_|omega);simp[om,UA];refine fE.s (by simp[UA,<-E];rfl) ?_;rw[hX];have hB:=a.box (o:=.row 72 0 (gS (gt L k))) (FL gd);have n':(gt L k).c.hi=(gt L k).c.lo+(gt L k).c.es.length:=by omega
    have B3:gt (cs L) (k.toNat:Int)=(gt L k).c:=by rw[EF,Ue k0 Y]
    refine fE.e ((Hc ++ [.row 72 0 (gS (gt L k))],0):U×Int) (λy=>[(0,.ptr ck 0 0),(3,Nr),(5,.i k),(6,.ptr Hc.length 0 0),(38,q),(39,.i L.length),(40,.i k),(63,dE (gt L k).em (gt L k).c.es),(64,.i (gt L k).c.es.length),(65,.i y.2)]) (λy=>y.1) (λy=>(0<=y.2/\y.2<=(gt L k).c.es.length)/\∃ow P Q,HI H y.1 ck H.length l.length C (hP (iP l.length) (cs L) k.toNat y.2.toNat) bad Nr (some (Hc.length,.row 72 0 (gS (gt L k)))) ow P Q) (λy=>((gt L k).c.es.length-y.2).toNat) ?_ ?_
    .exact⟨by simp,_,P,Q,by rw[show(((Hc ++ [Ob.row 72 0 (gS (gt L k))],0):U×Int).2).toNat=0 from rfl,acp];exact hB⟩
    clear a hB B A;rintro⟨f,e⟩ ⟨⟨e0,e1⟩,ow,P,Q,a⟩;dsimp only at e0 e1 a ⊢
    by_cases W:e<(gt L k).c.es.length
    .have OH:(gt L k).em=false:=by
      cases h:(gt L k).em with
      | false=>rfl
      | true=>rw[V.em h]at W;simp at W;omega
     have g0:dE (gt L k).em (gt L k).c.es=gQ (gt L k).c.es:=by rw[OH];rfl
     have B:=a.ct;rw[BO]at B;have A:∀R:U,(f++R)[ck]? = some (.row 168 0 (g.cells ++ [gC l,.sl 1 (nx.map fN),q,.fm H.length 0 1 0 l.length])):=λR=>ln B;have Ou:∀R:U,(f++R)[Hc.length]? = some (.row 72 0 (gS (gt L k))):=λR=>ln (a.bx _ rfl).1;have p6:∀R:U,(f++R)[H.length]? = some (.row 170 0 ((List.range l.length).map λj=>D.fV (P j))):=λR=>ln a.sg.row;obtain⟨r,hr⟩:∃r,gt (gt L k).c.es e=r:=⟨_,rfl⟩;obtain⟨j,hj⟩:∃j:Nat,(gt L k).c.lo+e=j:=⟨((gt L k).c.lo+e).toNat,by omega⟩;have S:j<l.length:=by omega
     have lU:=V.lo;rw[g0];simp[W,hr];refine kl W hr ?_;simp[A,Ou,p6,E,hj,S];(with_reducible repeat' first|refine Xk ?_<;>try simp[A,Ou,p6,E,hj,S]|refine Xs ?_ ?_<;>intro h<;>(try intro Z)<;>(try simp[h,A,Ou,p6,E,hj,S])<;>try omega|refine Xg ?_|omega);have ub:(gt (cs L) (k.toNat:Int)).lo.toNat+e.toNat=j:=by rw[B3];omega
     have fG:hP (iP l.length) (cs L) k.toNat (e+1).toNat=uJ (hP (iP l.length) (cs L) k.toNat e.toNat) j (mR r k (hP (iP l.length) (cs L) k.toNat e.toNat j)):=by have:=aco (ad:=iP l.length) (cl:=cs L) (k:=k.toNat) (e:=e.toNat) (by rw[B3];exact EZ.1);rw[ub,B3,show(e.toNat:Int)=e by omega,hr,EF]at this;rw[show(e+1).toNat=e.toNat+1 by omega];exact this
     have Uq:hP (iP l.length) (cs L) k.toNat e.toNat j=hM (iP l.length) (cs L) k.toNat j:=by have:=Us (ad:=iP l.length) (cl:=cs L) (k:=k.toNat) (e:=e.toNat) (by rw[B3];exact EZ.1);rw[ub]at this;exact this
     have gK:∀t x,mS r (hP (iP l.length) (cs L) k.toNat e.toNat j)=some (t,x)->x≠[]/\x.length<=k.toNat:=λt x h=>by rw[Uq]at h;exact⟨ab9 h,ab8 h⟩
     obtain⟨z,Up⟩:∃z,hP (iP l.length) (cs L) k.toNat e.toNat=z:=⟨_,rfl⟩;rw[Up]at a fG gK;clear Up Uq ub;obtain⟨p1,p2⟩:=a.sg.mp j S;have X:=mG p1;have hS:∀(R:U) (o:Ob),(f++R).set (P j) o=f.set (P j) o++R:=λR o=>bk _ _ X
     cases hg:mS r (z j)with
     | none=>
      have N:∀R,wZ (.ints [.i64,.i64]) .fw (.fV (P j)) (.agg [.i r.1,.i r.2]) (f++R)=some (.tup [.fw,.i (z j).length],.obj (P j) (.map KS (il (Q j) 0 (z j) ++ [(kJ r,.fw)]))):=λR=>aef (ln p1) hg
      have hN:∀(o:Ob) (R:U) (i:Nat),(f.set (P j) o++R)[f.length+i]? = R[i]? := λo R i=>by rw[ai (by rw[aF];omega),aF];congr 1;omega
      have K:∀(d:D) (R:U),zk (.fV (P j)) (.i (z j).length) d (f.set (P j) (.map KS (il (Q j) 0 (z j) ++ [(kJ r,.fw)]))++R)=some (.any,.obj (P j) (.map KS (il (Q j) 0 (z j) ++ [(kJ r,d)]))):=λd R=>by rw[Te (es:=il (Q j) 0 (z j) ++ [(kJ r,.fw)]) (k:=kJ r) (d0:=.fw) (by rw[ah (by rw[aF];exact X),aX X]) (by rw[ai (by rw[zo];omega),zo,cj];rfl)];rw[dR _ _ (by rw[zo];omega),zo,cj];rfl
      have J:∀(R:U) (o o':Ob),(f.set (P j) o++R).set (P j) o'=f.set (P j) o'++R:=λR o o'=>by rw[bk _ _ (by rw[aF];exact X),List.set_set]
      simp[N,hS,hN,K,J];(with_reducible repeat' first|refine Xk ?_<;>try simp[N,hS,hN,K,J]|refine Xs ?_ ?_<;>intro h<;>(try intro Z)<;>(try simp[h,N,hS,hN,K,J])<;>try omega|refine Xg ?_|omega);refine LJ.i (_,e+1) (by simp) rfl rfl rfl ?_;refine⟨by dsimp only;omega,ie,?_⟩;dsimp only;rw[fG];have m:=(a.more (o:=.row 86 0 [.i r.1,.i r.2]) rfl (7,0,0)).more (o:=.row 3 0 [.i k]) rfl (7,0,0);obtain⟨nQ,Q',BS,_⟩:=m.new (r:=r) (k:=k) S hg;refine⟨nQ,P,Q',?_⟩;have W:(f ++ [Ob.row 86 0 [.i r.1,.i r.2]] ++ [Ob.row 3 0 [.i k]]).length=f.length+2:=by simp
      rw[W,aM,bk _ _ X]at BS;simpa[pI,iF,oI]using BS
     | some tx=>
      obtain⟨t,x⟩:=tx;obtain⟨e5,qv⟩:=gK t x hg;have l9:0<x.length:=av.2 e5;obtain⟨q1,q2⟩:=a.sg.ls j S t _ (xW (k:=k) hg).1;have EV:=mG q1;have yh:P j≠Q j t:=λe=>by rw[e,q2]at p2;simp at p2
      have vq:∀R:U,(f++R)[Q j t]? = some (.row 3 (x.length-1) (AL.cl f1 x)):=λR=>ln q1;have N:∀R,wZ (.ints [.i64,.i64]) .fw (.fV (P j)) (.agg [.i r.1,.i r.2]) (f++R)=some (.tup [oI (Q j t) x,.i t],.obj (P j) (.map KS (il (Q j) 0 (z j)))):=λR=>aeg (ln p1) hg;have yk:f.set (P j) (.map KS (il (Q j) 0 (z j)))=f:=qJ p1;have hQ:∀(R:U) (o:Ob),(f++R).set (Q j t) o=f.set (Q j t) o++R:=λR o=>bk _ _ EV
      have K:∀(d:D) (o:Ob) (R:U),zk (.fV (P j)) (.i t) d (f.set (Q j t) o++R)=some (.any,.obj (P j) (.map KS ((il (Q j) 0 (z j)).set t (kJ r,d)))):=λd o R=>by
       refine Te (k:=kJ r) (d0:=oI (Q j t) x) ?_ ?_
       .rw[ah (by rw[aF];exact X),bQ (cF yh)];exact p1
       .rw[wi,(xW (k:=k) hg).1];simp
      have J:∀(R:U) (o o':Ob),(f.set (Q j t) o++R).set (P j) o'=(f.set (Q j t) o).set (P j) o'++R:=λR o o'=>bk _ _ (by rw[aF];exact X);simp[N,hS,yk,vq,hQ,K,J,oI];(with_reducible repeat' first|refine Xk ?_<;>try simp[N,hS,yk,vq,hQ,K,J,oI]|refine Xs ?_ ?_<;>intro h<;>(try intro Z)<;>(try simp[h,N,hS,yk,vq,hQ,K,J,oI])<;>try omega|refine Xg ?_|omega);refine LJ.i (_,e+1) (by simp) rfl rfl rfl ?_;refine⟨by dsimp only;omega,ie,?_⟩;dsimp only;rw[fG];have m:=((a.old (r:=r) (k:=k) S hg).more (o:=.row 86 0 [.i r.1,.i r.2]) rfl (7,0,0)).more (o:=.row 3 0 [.i k]) rfl (7,0,0);have kU:(x ++ [k]).length-1=x.length-1+1:=by simp;omega
      have jV:(x ++ [k]).length=x.length+1:=by simp
      have:oI (Q j t) (x ++ [k]) = .fm (Q j t) (x.length-1+1) 1 0 (x.length+1):=by unfold oI;rw[kU,jV]
      rw[this]at m;unfold pI at m;rw[kU]at m;rw[aM]at m;exact⟨_,P,Q,m⟩
    have UO:e=(gt L k).c.es.length:=by omega
    have wD:hP (iP l.length) (cs L) k.toNat e.toNat=hM (iP l.length) (cs L) (k+1).toNat:=by rw[show(k+1).toNat=k.toNat+1 by omega];exact acn (by rw[B3];exact w) (by rw[B3];omega)
    rw[wD]at a;simp[W];refine fo ?_;refine LJ.i (f,k+1,bad,Nr) (by simp) rfl rfl rfl ?_;exact⟨by dsimp only;omega,ie,F.symm,by dsimp only;omega,ow,P,Q,a.nob⟩
   .rw[decide_eq_false zX]at w;have G:(l.length:Int)<(gt L k).c.hi:=by omega
    simp only[w,Bool.not_false,if_true]at F
    have hX:(gS (gt L k)).take 36++(D.i 0::D.i 0::D.i 0::D.fw::AL.cl fU (zs 32)).drop (min 36 (gS (gt L k)).length)=gS (gt L k):=by rw[s,u];simp
    simp[u,s,hX,E,A,G];(with_reducible repeat' first|refine Xk ?_<;>try simp[u,s,hX,E,A,G]|refine Xs ?_ ?_<;>intro h<;>(try intro Z)<;>(try simp[h,u,s,hX,E,A,G])<;>try omega|refine Xg ?_|omega);rcases a.bd with⟨rfl,rfl⟩|⟨zN,v,gn,rfl,M,ve⟩
    .simp;refine fo ?_;refine LJ.i (_,k+1,[k],.fm (Hc.length+2) 0 1 0 1) (by simp) rfl rfl rfl ?_;refine⟨by dsimp only;omega,ie,F.symm,by simp;omega,?_⟩;dsimp only;rw[KT w,hX];have m:=(a.more (o:=.row 72 0 (gS (gt L k))) (FL gd) (7,0,0)).more (o:=.row 3 0 [.i k]) rfl (7,0,0);obtain⟨nQ,BS⟩:=m.Sh k;exact⟨nQ,P,Q,by simpa[pI,iF]using BS⟩
    .have x7:∀R:U,(Hc++R)[v]? = some (.row 3 gn (AL.cl f1 bad)):=λR=>ln M;have Et:∀(R:U) (o:Ob),(Hc++R).set v o=Hc.set v o++R:=λR o=>bk _ _ (mG M);simp[x7,Et];refine kl x7 Et ?_;refine LJ.i (_,k+1,bad ++ [k],.fm v (gn+1) 1 0 (bad.length+1)) (by simp) rfl rfl rfl ?_;refine⟨by dsimp only;omega,ie,F.symm,by simp;omega,?_⟩;dsimp only;rw[KT w,hX];have m:=((a.Si (k:=k) zN M ve).more (o:=.row 72 0 (gS (gt L k))) (FL gd) (7,0,0)).more (o:=.row 3 0 [.i k]) rfl (7,0,0);exact⟨_,P,Q,by simpa using m⟩
 have z8:k=L.length:=by omega
 subst z8;rw[b9]at a zO;rw[<-zO];simp;refine fo ?_;exact⟨ow,P,Q,a⟩
end Go.Proofs.YtmehofoficaelaaGreatDoor
namespace Go.Proofs.YtmehofoficaelaaGreatDoor
open Go Go.AL Classical
set_option maxRecDepth 10000
set_option maxHeartbeats 4000000
theorem Sr{n:Nat}{N:Int->Int}{K:Int->Prop}(c:∀i,K i->(0<=i/\i<n)/\0<=N i)(h:∀i,K i->N i=0\/∃k,K k/\N k=N i-1):∀i,K i->N i<n:=by
 have b:∀(a:Nat) (i:Int),K i->N i=a->∀m:Nat,m<=a->∃q,K q/\N q=m:=by
  intro a
  induction a with
  | zero=>exactλi hi e m j=>⟨i,hi,by omega⟩
  | succ a d=>
   intro i hi e m j
   by_cases em:m=a+1
   .exact⟨i,hi,by omega⟩
   rcases h i hi with h1|⟨k,l,h1⟩
   .omega
   .exact d k l (by omega) m (by omega)
 intro i hi;have h0:=c i hi
 have:=FG (eO (n:=(N i).toNat+1)) (m:=(upto n).map λk=>(N k).toNat) λx f=>by obtain⟨q,g,e⟩:=b (N i).toNat i hi (by omega) x (by have:=a7.1 f;omega);exact au.2 ⟨q,js.2 (c q g).1,by rw[e];rfl⟩
 simp[upto]at this;omega
theorem ad3{A:nu}{n:Nat}{v:List fq}(hS:∀i:Int,0<=i->i<n->∀k∈gt A.nx i,0<=k/\k<n)(h:∀i:Int,0<=i->i<n->oX A v i){i:Int}(i0:0<=i)(e:i<n):0<=(gt v i).2/\(gt v i).2<n:=by
 refine⟨(h i i0 e).n0,Sr (N:=λi=>(gt v i).2) (K:=λi=>0<=i/\i<n) (λi hi=>⟨hi,(h i hi.1 hi.2).n0⟩) (λi hi=>?_) i ⟨i0,e⟩⟩;rcases h i hi.1 hi.2 with⟨_,b⟩|⟨_,⟨a,f,b,⟨k,c,d⟩,_⟩|⟨a,f,b,_,k,c,d⟩|⟨b,_⟩⟩
 .left;rw[b]
 .right;exact⟨k,hS i hi.1 hi.2 k c,by rw[b,d]⟩
 .right;exact⟨k,hS i hi.1 hi.2 k c,by rw[b,d]⟩
 .left;rw[b]
def kV(v:List Kn):List fq:=v.map λx=>(x.1,x.2.1)
def kB(v:List Kn):List Bool:=v.map λx => !x.2.2
theorem zz{v:List Kn}{k:Int}(k0:0<=k)(k1:k<v.length):gt (kV v) k=((gt v k).1,(gt v k).2.1):=by rw[jh k0 (by unfold kV;rw[List.length_map];exact k1),jh k0 k1];unfold kV;rw[List.getElem_map]
theorem vb{v:List Kn}{k:Int}(k0:0<=k)(k1:k<v.length):gt (kB v) k = !(gt v k).2.2:=by rw[jh k0 (by unfold kB;rw[List.length_map];exact k1),jh k0 k1];unfold kB;rw[List.getElem_map]
@[local simp] theorem asn:max (0:Int) (-1)=0:=by decide
noncomputable def oE(v:List Kn)(x:List Int)(n:Int):Kn:=if As (kV v) (kB v) x n then(1,n,true)else if (kM (kV v) (kB v) x x.length).1=x.length/\(kM (kV v) (kB v) x x.length).2=n-1 then(3,n,true)else(0,0,false)
theorem TJ(v:List Kn)(l:List Int)(n:Int)(B:1<=n/\n<=4000)(h0:0<l.length)(hl:l.length<2 ^ 40)(p:∀k∈l,0<=k/\k<v.length)(z:∀k∈l,(gt v k).2.2=true->0<=(gt v k).2.1) :
  Wf T 129 [.sl 3 (v.map fK),dI l,.i n] [] (Is (.agg [.i (oE v l n).1,.i (oE v l n).2.1,.b (oE v l n).2.2])):=by
 refine Yg Ji ?_;simp[Ji];refine fE.e (0:Int) (λy=>[(0,.sl 3 (v.map fK)),(1,dI l),(2,.i n),(6,.ptr 0 0 0),(7,.i (kM (kV v) (kB v) l y.toNat).1),(8,.i (max 0 (kM (kV v) (kB v) l y.toNat).2)),(9,.i y)]) (λy=>[.row 245 0 [.i 0,.i 0,.b false]]) (λy=>0<=y/\y<=l.length/\∀k∈l.take y.toNat,¬(gt (kB v) k=false/\gt (kV v) k=(3,n-1))) (λy=>(l.length-y).toNat) ?_ ?_
 .simp
 rintro j ⟨j0,j1,j2⟩;dsimp only at j0 j1 j2 ⊢
 by_cases f:j<l.length
 .have a:=p _ (fM j0 f);have c:=akY (v:=kV v) (b:=kB v) (x:=l) j0;have hV:=zz a.1 a.2;have g:=vb a.1 a.2;have w:=MO (kV v) (kB v) l j.toNat
  have d:¬(gt (kB v) (gt l j)=false/\gt (kV v) (gt l j)=(3,n-1))->∀k∈l.take (j+1).toNat,¬(gt (kB v) k=false/\gt (kV v) k=(3,n-1)):=λh k a=>by
   rw[iD j0 f]at a;rcases List.mem_append.1 a with a|a
   .exact j2 k a
   .rw[List.mem_singleton.1 a];exact h
  rw[hV,g]at d c;simp[f];generalize gt v (gt l j)=r at *;obtain⟨o,m,s⟩:=r;dsimp only at d c hV g ⊢;(with_reducible repeat' first|refine Xk ?_<;>try simp|refine Xs ?_ ?_<;>intro h<;>(try intro A)<;>(try simp[h])<;>try omega|refine Xg ?_|omega)
  .have hl:As (kV v) (kB v) l n:=⟨_,fM j0 f,by rw[g];simp[*],by rw[hV];simp[*]⟩;simp[oE,hl]
  .refine LJ.i (j+1) (by first|rfl|simp[c, *]) (by first|rfl|simp[c, *]) rfl rfl ?_;exact gg (d (by simp[*]))
  .refine LJ.i (j+1) (by first|rfl|simp[c, *]) (by first|rfl|simp[c, *]) rfl rfl ?_;exact gg (d (by simp[*]))
  .refine LJ.i (j+1) (by first|rfl|simp[c, *]) (by first|rfl|simp[c, *]) rfl rfl ?_;exact gg (d (by simp[*]))
 .have u:j=l.length:=by omega
  subst u;have hl:¬As (kV v) (kB v) l n:=λ⟨k,a,h⟩=>j2 k (by rw[kq (by omega)];exact a) h
  have i:(kM (kV v) (kB v) l l.length).1=l.length->max 0 (kM (kV v) (kB v) l l.length).2=(kM (kV v) (kB v) l l.length).2:=λe=>by have h1:=MP _ e 0 h0;have t:=Q6 _ e 0 h0;have q:=fM (l:=l) (n:=((0:Nat):Int)) (by omega) (by omega);have a:=p _ q;rw[vb a.1 a.2]at t;rw[zz a.1 a.2]at h1;have:=z _ q (by simpa using t.1);dsimp only at h1;omega
  simp[f];(with_reducible repeat' first|refine Xk ?_<;>try simp|refine Xs ?_ ?_<;>intro h<;>(try intro A)<;>(try simp[h])<;>try omega|refine Xg ?_|omega)
  .rw[i ‹_›]at h;simp[oE,hl, *]
  .rw[i ‹_›]at h;simp[oE,hl, *]
  .simp[oE,hl, *]
end Go.Proofs.YtmehofoficaelaaGreatDoor
namespace Go.Proofs.YtmehofoficaelaaGreatDoor
open Go Go.AL Classical
set_option maxRecDepth 10000
set_option maxHeartbeats 16000000
attribute [-simp] uZ
theorem Zy{l:List fq}{n:Int}(n0:0<=n)(h:n<l.length)(a:Int):(cl fS l).take (n.toNat*2) ++ .i a::(cl fS l).drop (n.toNat*2+1)=cl fS (pt l n (a,(gt l n).2)):=by
 have e:(cl fS l).drop (n.toNat*2+1) = .i (gt l n).2::(cl fS l).drop (n.toNat*2+2):=by
  have h1:(cl fS l).drop (n.toNat*2) = .i (gt l n).1 :: .i (gt l n).2::cl fS (l.drop (n.toNat+1)):=by rw[tM,mP n0 h,mm,BH];rfl
  have b:(cl fS l).drop (n.toNat*2+2)=cl fS (l.drop (n.toNat+1)):=by rw[show n.toNat*2+2=(n.toNat+1)*2 by omega,tM]
  rw[b,<-bR,h1];rfl
 rw[e];exact SD a _
theorem Qf{n:Nat}{H G:U}(h:jC H.length H)(a:n=H.length)(b:jC n G):jC (H++G).length (H++G):=by subst a;rw[ar];exact yF (FK (by omega) h) (FK (by omega) b)
section
variable{H:U}{ck sr n:Nat}{M:Nat->jz}{ow:Nat->Nat×Nat×Nat}{P:Nat->Nat}{Q:Nat->Nat->Nat}{cells:List D}
theorem lY.app(h:lY H ck sr n M ow P Q)(G:U):lY (H++G) ck sr n M ow P Q:=h.mono λ_ _ a _=>ln a
theorem TA(l:lY H ck sr n M ow P Q)(ft:jC H.length H)(h:H[ck]? = some (.row 168 0 cells))(g:cells[12]? = some (.fm sr 0 1 0 n))
  {cm:List gx} (u:cm.length<=100000) {i:Int} (i0:0<=i) (j:i<n) (hM:M i.toNat=gw cm i) {t2 t3:Nat} (b:H[t2]? = some (.row 157 0 [.ptr ck 0 0])) (a:H[t3]? = some (.row 3 0 [.i i])) (q:fq) :
  Wf T 186 [.agg [.i q.1,.i q.2],.ptr t2 0 0,.ptr t3 0 0] H (λd H'=>d=dN 1 f1 (jx (λc=>jZ c i&&decide (kb c i≠q)) cm cm.length)/\H'=H):=by
 have f:∀R:U,(H++R)[t2]? = some (.row 157 0 [.ptr ck 0 0]):=λR=>ln b;have e:∀R:U,(H++R)[t3]? = some (.row 3 0 [.i i]):=λR=>ln a;refine Yg Hq ?_;simp[Hq,f,e];refine fL.lG rfl rfl (NI (H:=H ++ [.row 86 0 [.i q.1,.i q.2]]) (l.app _) (Qf ft rfl λo m=>by rw[List.mem_singleton.1 m];rfl) (ln h) g u i0 j hM (w:=λr=>decide (r≠q)) λr dst s K p k=>?_) ?_
 .have t:=p H.length (.row 86 0 [.i q.1,.i q.2]) (by simp);exact Yr (abd r q) k rfl rfl (by simp[t])
 .rintro _ H' ⟨rfl,rfl⟩;simp[yA ft]
end
end Go.Proofs.YtmehofoficaelaaGreatDoor
namespace Go.Proofs.YtmehofoficaelaaGreatDoor
open Go Go.AL Classical
set_option maxRecDepth 10000
set_option maxHeartbeats 16000000
attribute [-simp] uZ
def pk(cm:List gx)(m j k:Int)(V:List fq)(seen:List Nat):List fq:=if seen≠[]/\(gw cm j).length=1/\(pv (sd cm j)).2<m then pt (pt V k (2,0)) k (pv (sd cm j))else pt V k (2,0)
@[simp] theorem akU(cm:List gx)(m j k:Int)(V:List fq):pk cm m j k V []=pt V k (2,0):=if_neg λh=>h.1 rfl
section
variable{cm:List gx}{m j k:Int}{V:List fq}{seen:List Nat}
theorem Ye(k0:0<=k)(k1:k<V.length):(pk cm m j k V seen).length=V.length:=by
 unfold pk;have h:=ig (l:=V) (v:=((2,0):fq)) k0 k1;split
 .rw[ig k0 (by omega),h]
 .exact h
theorem Yf(k0:0<=k)(k1:k<V.length){i:Int}(i0:0<=i)(h:i≠k):gt (pk cm m j k V seen) i=gt V i:=by
 unfold pk;have hl:=ig (l:=V) (v:=((2,0):fq)) k0 k1;split
 .rw[o5 k0 (by omega) i0,if_neg h,o5 k0 k1 i0,if_neg h]
 .rw[o5 k0 k1 i0,if_neg h]
theorem akT(k0:0<=k)(k1:k<V.length)(hs:sd cm j≠[])(d:∀t,t<(gw cm j).length->t∈seen):gt (pk cm m j k V seen) k=wg cm m j:=by
 unfold pk wg;have hl:=ig (l:=V) (v:=((2,0):fq)) k0 k1;have f:(gw cm j).length≠0:=λh=>hs (N1.1 h)
 have b:seen≠[]:=λh=>by have:=d 0 (by omega);rw[h]at this;cases this
 have a:(gw cm j).length=1↔l4 (sd cm j)=false:=by
  have:=KJ (cl:=cm) (i:=j)
  cases e:l4 (sd cm j)with
  | true=>
   rw[e]at this;constructor
   .intro h;have:=this.2 rfl;omega
   .intro h;cases h
  | false=>
   rw[e]at this;constructor
   .intro _;rfl
   .intro _;have g:¬ 1<(gw cm j).length:=λh=>by cases this.1 h
    omega
 by_cases c:l4 (sd cm j)=false/\(pv (sd cm j)).2<m
 .rw[if_pos c,if_pos ⟨b,a.2 c.1,c.2⟩,o5 k0 (by omega) k0,if_pos rfl]
 .rw[if_neg c,if_neg λh=>c ⟨a.1 h.2.1,h.2.2⟩,o5 k0 k1 k0,if_pos rfl]
end
section
variable{H:U}{ck sr n:Nat}{M:Nat->jz}{ow:Nat->Nat×Nat×Nat}{P:Nat->Nat}{Q:Nat->Nat->Nat}
theorem aaY(g:fu)(hg:gu g)(l:List Pos)(hc:oC g l){iS:D}(om:n=l.length)(J:lY H ck sr n M ow P Q)(ft:jC H.length H)(X:H[ck]? = some (.row 168 0 (mN g l (fQ g l) iS (.fm sr 0 1 0 n))))
  {cm:List gx} (h8:cm.length<=100000) {i:Int} (i0:0<=i) (I:i<n) (hM:∀j,j<n->M j=gw cm j)
  (hp:∀j:Int,0<=j->j<l.length->∀r∈sd cm j,lW r=true) (hb:∀j:Int,0<=j->j<l.length->∀r∈sd cm j,r.2<=4000) (hs:∀j:Int,0<=j->j<l.length->sd cm j≠[]) :
  Wf T 123 [.ptr ck 0 0,.i i] H (λd H'=>d=dN 1 f1 (jx (pN (lM g l (fQ g l)) cm i) cm cm.length)/\H'=H):=by
 subst om;have g6:=hc.len;have uc:=hc.ok _ (fM i0 I);have Ac:(fQ g l).length=l.length:=by simp[fQ]
 have fZ:=(qy hc (i:=i) i0 I).2;have gK:=(qy hc (i:=i) i0 I).1
 have qv:(gt (fQ g l) i).length<=4000000000:=by rw[gK,List.length_map];have:=Aw hg uc;omega
 have uj:(stat g (gt l i)).2=false->0<(gt (fQ g l) i).length:=λh=>by
  rw[gK,List.length_map];have:ic g (gt l i)≠[]:=λe=>by unfold stat at h;simp[e]at h
  exact av.2 this
 have Nl:=f54 g hg (gt l i) uc;obtain⟨m,hm⟩:∃m,lx (sd cm i)=m:=⟨_,rfl⟩
 have ui:(stat g (gt l i)).2=true->∀c∈cm,(jZ c i&&decide (kb c i≠((stat g (gt l i)).1,0)))=pN (lM g l (fQ g l)) cm i c:=λh c _=>by unfold pN;rw[if_pos (show(lM g l (fQ g l)).ov i=true from h)];rfl
 have F:(stat g (gt l i)).2=false->(nJ ((gt (fQ g l) i).map (wg cm m))).1≠2->∀c∈cm,(jZ c i&&decide (kb c i≠nJ ((gt (fQ g l) i).map (wg cm m))))=pN (lM g l (fQ g l)) cm i c:=λh f c _=>by unfold pN;rw[if_neg (by rw[show(lM g l (fQ g l)).ov i=false from h];simp),hm,Wr,show gt (lM g l (fQ g l)).nx i=gt (fQ g l) i from rfl,if_pos f]
 have C:(stat g (gt l i)).2=false->(nJ ((gt (fQ g l) i).map (wg cm m))).1=2->∀c∈cm,(jZ c i&&decide ((kb c i).1≠2/\(kb c i).2=m))=pN (lM g l (fQ g l)) cm i c:=λh f c _=>by unfold pN;rw[if_neg (by rw[show(lM g l (fQ g l)).ov i=false from h];simp),hm,Wr,show gt (lM g l (fQ g l)).nx i=gt (fQ g l) i from rfl,if_neg (by rw[f];simp)]
 obtain⟨W,hW⟩:∃W,jx (pN (lM g l (fQ g l)) cm i) cm cm.length=W:=⟨_,rfl⟩;have KW:∀p:gx->Bool,(∀c∈cm,p c=pN (lM g l (fQ g l)) cm i c)->jx p cm cm.length=W:=λp h=>by rw[<-hW];exact VC (by omega) h
 rw[hW];obtain⟨nx,rL⟩:∃nx,fQ g l=nx:=⟨_,rfl⟩;rw[rL]at X Ac fZ qv uj F C KW ui;obtain⟨st,fG⟩:∃st,stat g (gt l i)=st:=⟨_,rfl⟩;rw[fG]at Nl uj ui F C;obtain⟨o,ov⟩:=st;dsimp only at Nl uj ui F C;have o7:(mN g l nx iS (.fm sr 0 1 0 l.length))[12]? = some (.fm sr 0 1 0 l.length):=by unfold mN;simp
 have v:∀R:U,(H++R)[ck]? = some (.row 168 0 [.i g.size,.sl 1 (g.next.map fI),dI g.iO,.sl 3 (g.kinds.map Kind.cells),.i g.fY,.b g.nL,dN 4 Clause.cells g.clauses,.i g.blocked,.i g.u4,gC l,.sl 1 (nx.map fN),iS,.fm sr 0 1 0 l.length]):=λR=>by rw[ln X];unfold mN;simp
 have UF:=mG X;have hA:nP H.length (.row 157 0 [.ptr ck 0 0])=true:=by simp[UF]
 have wz:∀(G:U),jC H.length G->jC (H++(Ob.row 157 0 [.ptr ck 0 0]::Ob.row 3 0 [.i i]::G)).length (H++(Ob.row 157 0 [.ptr ck 0 0]::Ob.row 3 0 [.i i]::G)):=λG hG=>Qf ft rfl λx J=>by
  rcases aw.1 J with rfl|J
  .exact hA
  .rcases aw.1 J with rfl|J
   .rfl
   .exact hG x J
 have Eo:∀j:Int,0<=j->j<l.length->M j.toNat=gw cm j:=λj j0 j1=>by have:=hM j.toNat (by omega);rwa [show(j.toNat:Int)=j by omega]at this
 refine Yg Hh ?_;simp[Hh,v];refine ja v ?_;refine Yt (Nl) ?_;simp[v];cases ov
 .have uj:=uj rfl;have F:=F rfl;have C:=C rfl;obtain⟨x,Ck⟩:∃x,gt nx i=x:=⟨_,rfl⟩;rw[Ck]at fZ qv uj F C;simp;refine fo ?_;refine fL.w (by simp;rfl) ?_;refine fL.lG rfl rfl (NJ (H:=H ++ [.row 157 0 [.ptr ck 0 0],.row 3 0 [.i i]]) (J.app _) (wz [] λ_ h=>by cases h) (ln X) o7 i0 I (Eo i i0 I) (hp i i0 I)) ?_;rintro _ H' ⟨rfl,rfl⟩;rw[hm];simp[v,Ck,xS];(with_reducible repeat' first|refine Xk ?_<;>try simp[v,Ck,xS]|refine Xs ?_ ?_<;>intro h<;>(try intro h')<;>(try simp[h,v,Ck,xS])<;>try omega|refine Xg ?_|omega)
  have hz:(List.replicate x.length [D.i 0,D.i 0]).flatten=AL.cl fS (List.replicate x.length (0,0)):=by rw[na,dy,BH]
  refine fE.s (by simp[hz];rfl) ?_;refine fE.e ((0,List.replicate x.length (0,0),[]):Int×List fq×U) (λy=>[(2,.ptr H.length 0 0),(3,.ptr (H.length+1) 0 0),(5,.fn (.func 186) [] [.ptr H.length 0 0,.ptr (H.length+1) 0 0]),(8,.ptr (H.length+2) 0 0),(9,.fm (H.length+3) 0 2 0 x.length),(53,dN 1 f1 x),(54,.i x.length),(55,.i y.1)]) (λy=>H++(.row 157 0 [.ptr ck 0 0] :: .row 3 0 [.i i] :: .row 3 0 [.i m] :: .row 86 0 (AL.cl fS y.2.1)::y.2.2)) (λy=>(0<=y.1/\y.1<=x.length)/\y.2.1.length=x.length/\(∀j:Int,0<=j->j<y.1->gt y.2.1 j=wg cm m (gt x j))/\(∀j:Int,y.1<=j->j<x.length->gt y.2.1 j=(0,0))/\jC H.length y.2.2) (λy=>(x.length-y.1).toNat) ?_ ?_
  .refine⟨by simp,by simp,λj j0 j1=>absurd j1 (by dsimp only;omega),λj j0 j1=>?_,λ_ h=>by cases h⟩;rw[jh j0 (by simpa using j1)];simp
  rintro⟨k,V,R⟩ ⟨⟨k0,k1⟩,hV,Oj,Ol,hR⟩;dsimp only at k0 k1 hV Oj Ol hR ⊢
  by_cases hk:k<x.length
  .obtain⟨j,Y⟩:∃j,gt x k=j:=⟨_,rfl⟩;have a:=fZ _ (fM k0 hk);rw[Y]at a;have ES:=Zy k0 (by omega:k<V.length) 2;rw[Ol k (by omega) hk]at ES;obtain⟨p1,_⟩:=J.mp j.toNat (by omega);rw[Eo j a.1 a.2]at p1;have E:∀R:U,(H++R)[sr]? = some (.row 170 0 ((List.range l.length).map λj=>D.fV (P j))):=λR=>ln J.row;obtain⟨p,B⟩:∃p,P j.toNat=p:=⟨_,rfl⟩;obtain⟨q,Ag⟩:∃q,Q j.toNat=q:=⟨_,rfl⟩;rw[B,Ag]at p1;have A:∀R:U,(H++R)[p]? = some (.map KS (il q 0 (gw cm j))):=λR=>ln p1;have gU:=mG p1;simp[hk,Y,v,ES,E,B,A,a.1,a.2];(with_reducible repeat' first|refine Xk ?_<;>try simp[hk,Y,v,ES,E,B,A,a.1,a.2]|refine Xs ?_ ?_<;>intro h<;>(try intro h')<;>(try simp[h,hk,Y,v,ES,E,B,A,a.1,a.2])<;>try omega|refine Xg ?_|omega);refine fE.s (by simp[ES];rfl) ?_;refine fE.e (([],[]):List Nat×U) (λz=>[(2,.ptr H.length 0 0),(3,.ptr (H.length+1) 0 0),(5,.fn (.func 186) [] [.ptr H.length 0 0,.ptr (H.length+1) 0 0]),(8,.ptr (H.length+2) 0 0),(9,.fm (H.length+3) 0 2 0 x.length),(10,.i k),(11,.i j),(53,dN 1 f1 x),(54,.i x.length),(55,.i k),(71,.ptr (H.length+(R.length+4)) 0 0)]) (λz=>H++(.row 157 0 [.ptr ck 0 0] :: .row 3 0 [.i i] :: .row 3 0 [.i m] :: .row 86 0 (AL.cl fS (pk cm m j k V z.1))::(R ++ .iM (.fV p) (gw cm j).length z.1::z.2))) (λz=>z.1.Nodup/\(∀t∈z.1,t<(gw cm j).length)/\jC H.length z.2) (λz=>(gw cm j).length-z.1.length) ?_ ?_
   .exact⟨.nil,λ_ h=>(by cases h),λ_ h=>(by cases h)⟩
   rintro⟨seen,Z⟩ ⟨oo,gq,hZ⟩;dsimp only at oo gq hZ ⊢;simp;refine tH.at (m:=p) (since:=(gw cm j).length) (seen:=seen) (kk:=KS) (es:=il q 0 (gw cm j)) (by simp) (by simp[A]) (by simp) (λji=>?_) λt kv dv he hi=>?_
   .have ji:∀t,t<(gw cm j).length->t∈seen:=by simpa using ji
    simp;refine fo ?_;refine LJ.i (k+1,pk cm m j k V seen,R ++ .iM (.fV p) (gw cm j).length seen::Z) (by simp) (by simp) rfl rfl ?_;refine⟨by dsimp only;omega,ie,by rw[Ye k0 (by omega)];exact hV,λi' h0 h1=>?_,λi' h0 h1=>?_,yF hR λo b=>?_⟩
    .dsimp only at h1 ⊢
     by_cases e:i'=k
     .subst e;rw[Y];exact akT k0 (by omega) (hs j a.1 a.2) ji
     .rw[Yf k0 (by omega) h0 e];exact Oj i' h0 (by omega)
    .dsimp only at h0 ⊢;rw[Yf k0 (by omega) (by omega) (by omega)];exact Ol i' (by omega) h1
    .rcases aw.1 b with rfl|b
     .show decide (p<H.length)=true;exact decide_eq_true gU
     .exact hZ o b
   .rw[wi]at he;obtain⟨y,Ak,Px⟩:=aj.1 he;cases Px;have S:=Ml oo gq (ae.1 Ak).1 hi;have N:(il q 0 (gw cm j))[t]? = some (kJ y.1,oI (q t) y.2):=by rw[wi,Ak];simp
    have e:(H++(Ob.row 157 0 [.ptr ck 0 0]::Ob.row 3 0 [.i i]::Ob.row 3 0 [.i m]::Ob.row 86 0 (AL.cl fS (pk cm m j k V seen))::(R++Ob.iM (.fV p) (gw cm j).length seen::Z))).set (H.length+(R.length+4)) (.iM (.fV p) (gw cm j).length (seen ++ [t]))=H++(Ob.row 157 0 [.ptr ck 0 0]::Ob.row 3 0 [.i i]::Ob.row 3 0 [.i m]::Ob.row 86 0 (AL.cl fS (pk cm m j k V seen))::(R++Ob.iM (.fV p) (gw cm j).length (seen ++ [t])::Z)):=by simp
    rw[e]
    have vi:(gw cm j).length-(seen ++ [t]).length<(gw cm j).length-seen.length:=by have:=S.2.2;rw[ar,cy]at this ⊢;omega
    have iC:=Ye (cm:=cm) (m:=m) (j:=j) (seen:=seen) k0 (by omega:k<V.length)
    by_cases h1:(gw cm j).length=1
    .have e1:t=0:=by have:=(ae.1 Ak).1;omega
     have tg:seen = []:=aR.2 λu hu=>by have:=gq u hu;rw[show u=t by omega]at hu;exact hi hu
     have hy:y.1=pv (sd cm j):=acb (by
      obtain⟨z,hz⟩:=List.length_eq_one_iff.1 h1;rw[hz,e1]at Ak;cases Ak
      exact hz)
     subst tg;obtain⟨⟨O,L⟩,ls⟩:=y;dsimp only at hy N
     by_cases f:L<m
     .have hv:pk cm m j k V ([] ++ [t])=pt (pt V k (2,0)) k (O,L):=by unfold pk;rw[if_pos ⟨by simp,h1,by rw[<-hy];exact f⟩,hy]
      have O9:=SD (l:=pt V k (2,0)) (n:=k) O L;simp[A,N,v,E,B,a.1,a.2,h1,f,O9];(with_reducible repeat' first|refine Xk ?_<;>try simp[A,N,v,E,B,a.1,a.2,h1,f,O9]|refine Xs ?_ ?_<;>intro h<;>(try intro h')<;>(try simp[h,A,N,v,E,B,a.1,a.2,h1,f,O9])<;>try omega|refine Xg ?_|omega);rw[akU]at iC;refine⟨by rw[iC];omega,?_⟩;refine LJ.i ([] ++ [t],Z ++ [.row 86 0 [.i O,.i L]]) (by simp) (by rw[hv];simp[h1]) rfl rfl ?_;exact⟨vi,S.1,S.2.1,yF hZ λo b=>by rw[List.mem_singleton.1 b];rfl⟩
     .have hv:pk cm m j k V ([] ++ [t])=pt V k (2,0):=by unfold pk;rw[if_neg λh=>f (by have:=h.2.2;rw[<-hy]at this;exact this)]
      simp[A,N,v,E,B,a.1,a.2,h1,f];(with_reducible repeat' first|refine Xk ?_<;>try simp[A,N,v,E,B,a.1,a.2,h1,f]|refine Xs ?_ ?_<;>intro h<;>(try intro h')<;>(try simp[h,A,N,v,E,B,a.1,a.2,h1,f])<;>try omega|refine Xg ?_|omega);refine LJ.i ([] ++ [t],Z ++ [.row 86 0 [.i O,.i L]]) (by simp) (by rw[hv];simp[h1]) rfl rfl ?_;exact⟨vi,S.1,S.2.1,yF hZ λo b=>by rw[List.mem_singleton.1 b];rfl⟩
    .have hv:pk cm m j k V (seen ++ [t])=pk cm m j k V seen:=by unfold pk;rw[if_neg λh=>h1 h.2.1,if_neg λh=>h1 h.2.1]
     simp[A,N,v,E,B,a.1,a.2,h1];(with_reducible repeat' first|refine Xk ?_<;>try simp[A,N,v,E,B,a.1,a.2,h1]|refine Xs ?_ ?_<;>intro h<;>(try intro h')<;>(try simp[h,A,N,v,E,B,a.1,a.2,h1])<;>try omega|refine Xg ?_|omega);refine LJ.i (seen ++ [t],Z ++ [.row 86 0 [.i y.1.1,.i y.1.2]]) (by simp) (by simp[hv]) rfl rfl ?_;exact⟨vi,S.1,S.2.1,yF hZ λo b=>by rw[List.mem_singleton.1 b];rfl⟩
  have z8:k=x.length:=by omega
  have Uw:V=x.map (wg cm m):=by refine b6 (by rw[List.length_map];exact hV) λj j0 j1=>?_;have h:=Oj j (by omega) (by omega);rw[jh (by omega) (by omega),jh (l:=x) (by omega) (by omega)]at h;rw[List.getElem_map];exact h
  rw[<-Uw]at F C
  have Om:∀r∈V,0<=r.2/\r.2<=4000:=λr hr=>by
   rw[Uw]at hr;obtain⟨j,Y,rfl⟩:=au.1 hr;have a:=fZ j Y;unfold wg;split
   .have hf:=KB (hs j a.1 a.2);have h1:=hp j a.1 a.2 _ hf;have f:=hb j a.1 a.2 _ hf;refine⟨?_,f⟩;unfold lW at h1;simp only[decide_eq_true_eq]at h1;rcases h1 with e|e
    .rw[e];decide
    .exact e.2
   .exact⟨by decide,by decide⟩
  have a':=aa0 V (by omega) (by omega) Om;obtain⟨r,hr⟩:∃r,nJ V=r:=⟨_,rfl⟩;rw[hr]at a' F C;obtain⟨O,L⟩:=r;dsimp only at a' F C;simp[hk];refine fo ?_;refine Yr a' ?_ rfl rfl (by simp[hV]) (by simp[flat,s9]) (by simp)
  have hG:jC H.length (Ob.row 3 0 [.i m]::Ob.row 86 0 (AL.cl fS V)::(R ++ [Ob.row 86 0 [.i O,.i L]])):=λo b=>by
   rcases aw.1 b with rfl|b
   .rfl
   .rcases aw.1 b with rfl|b
    .exact FM _
    .rcases List.mem_append.1 b with b|b
     .exact hR o b
     .rw[List.mem_singleton.1 b];rfl
  by_cases f:O=2
  .subst f;have C:=C rfl;simp;refine fo ?_;refine fL.w (by simp;rfl) ?_;refine fL.lG rfl rfl (NI (H:=H++(.row 157 0 [.ptr ck 0 0] :: .row 3 0 [.i i] :: .row 3 0 [.i m] :: .row 86 0 (AL.cl fS V)::(R ++ [.row 86 0 [.i 2,.i L]]))) (J.app _) (wz _ hG) (ln X) o7 h8 i0 I (Eo i i0 I) (w:=λr=>decide (r.1≠2/\r.2=m)) λr dst s K jO k'=>?_) ?_
   .have hb:=jO (H.length+2) (.row 3 0 [.i m]) (by simp);exact Yr (abe r m) k' rfl rfl (by simp[hb])
   .rintro _ H' ⟨rfl,rfl⟩;rw[KW _ C];simp[yA ft]
  .have F:=F f;simp[f];refine ja f ?_;have DL:=TA (H:=H++(.row 157 0 [.ptr ck 0 0] :: .row 3 0 [.i i] :: .row 3 0 [.i m] :: .row 86 0 (AL.cl fS V)::(R ++ [.row 86 0 [.i O,.i L]]))) (J.app _) (wz _ hG) (ln X) o7 h8 i0 I (Eo i i0 I) (t2:=H.length) (t3:=H.length+1) (by simp) (by simp) (O,L);rw[KW _ F]at DL;refine fL.w (by simp;rfl) ?_;refine fL.lG rfl rfl DL ?_;rintro _ H' ⟨rfl,rfl⟩;simp[yA ft]
 .have ui:=ui rfl;have DL:=TA (H:=H ++ [.row 157 0 [.ptr ck 0 0],.row 3 0 [.i i]]) (J.app _) (wz [] λ_ h=>by cases h) (ln X) o7 h8 i0 I (Eo i i0 I) (t2:=H.length) (t3:=H.length+1) (by simp) (by simp) (o,0);rw[KW _ ui]at DL;simp;refine fo ?_;refine fL.w (by simp;rfl) ?_;refine fL.lG rfl rfl DL ?_;rintro _ H' ⟨rfl,rfl⟩;simp[yA ft]
end
end Go.Proofs.YtmehofoficaelaaGreatDoor
namespace Go.Proofs.YtmehofoficaelaaGreatDoor
open Go Go.AL Classical
set_option maxRecDepth 10000
set_option maxHeartbeats 16000000
attribute [-simp] uZ
section
variable{H:U}{ck sr n:Nat}{M:Nat->jz}{ow:Nat->Nat×Nat×Nat}{P:Nat->Nat}{Q:Nat->Nat->Nat}
theorem aaV{p:Nat}{kk:KK}{es:List (Value×D)}(a:H[p]? = some (.map kk es)):Wf T 118 [.fV p] H (λd H'=>d = .b (decide (es.length=0))/\H'=H):=by refine Yg G9 ?_;simp[G9,a]
theorem abb(i:lY H ck sr n M ow P Q)(o:n<=1000):Wf T 185 [.fm sr 0 1 0 n,.fn (.func 118) [] []] H (λd H'=>∃v:Int,d = .i v/\H'=H/\(0<=v↔∃j,j<n/\(M j).length=0)):=by
 have k:=i.row;refine Yg Ho ?_;simp[Ho];refine fE.e (0:Int) (λy=>[(0,.fm sr 0 1 0 n),(1,.fn (.func 118) [] []),(7,.i n),(8,.i y)]) (λy=>H) (λy=>(0<=y/\y<=n)/\∀j,j<y.toNat->(M j).length≠0) (λy=>(n-y).toNat) ?_ ?_
 .exact⟨by simp,λj c=>absurd c (by simp)⟩
 rintro y ⟨⟨g,l⟩,f⟩;dsimp only at g l f ⊢
 by_cases b:y<n
 .obtain⟨m,_⟩:=i.mp y.toNat (by omega);have a:y.toNat<n:=by omega
  simp[b,k,a];refine pR b k a ?_;refine fL.lG rfl rfl (aaV (H:=H) m) ?_;rintro _ H' ⟨rfl,rfl⟩;rw[zo]
  by_cases h0:(M y.toNat).length=0
  .rw[decide_eq_true h0];simp;refine fo ?_;exact⟨λ_=>⟨y.toNat,a,az.1 h0⟩,λ_=>g⟩
  .rw[decide_eq_false h0];simp;refine fo ?_;refine LJ.i (y+1) (by simp) rfl rfl rfl ⟨by omega,ie,λj c=>?_⟩
   by_cases e:j=y.toNat
   .rw[e];exact h0
   .exact f j (by omega)
 .simp[b];refine fo ?_;exactλj c h=>f j (by omega) (by rw[h];rfl)
theorem aaU(a:lY H ck sr n M ow P Q)(c:n<=1000):Wf T 117 [.fm sr 0 1 0 n,.fn (.func 118) [] []] H (λd H'=>d = .b (decide (∃j,j<n/\(M j).length=0))/\H'=H):=by refine Yg G8 ?_;simp[G8];refine fL.lG rfl rfl (abb a c) ?_;rintro _ H' ⟨v,rfl,rfl,b⟩;simp;simpa using b
theorem lY.aj8(h:lY H ck sr n M ow P Q){v:Nat}(f:ow v=(5,0,0))(o:Ob):lY (H.set v o) ck sr n M ow P Q:=by
 have key:∀(w:Nat) (x:Ob),H[w]? = some x->ow w≠(5,0,0)->(H.set v o)[w]? = some x:=λw x d g=>by rw[bQ (λe=>g (by rw[<-e];exact f))];exact d
 refine⟨h.fc,h.fs,key _ _ h.row (by rw[h.fs];simp),λj b=>?_,λj b t x c=>?_⟩
 .obtain⟨h1,a⟩:=h.mp j b;exact⟨key _ _ h1 (by rw[a];simp),a⟩
 .obtain⟨h1,a⟩:=h.ls j b t x c;exact⟨key _ _ h1 (by rw[a];simp),a⟩
end
@[simp] theorem anM(cl:List gx):lR cl 0 = -1:=rfl
theorem YT(cl:List gx){y:Int}(a:0<=y):lR cl (y+1).toNat=DC cl (lR cl y.toNat) y:=by rw[show(y+1).toNat=y.toNat+1 by omega];unfold lR;rw[MJ,List.foldl_append,show((y.toNat:Nat):Int)=y by omega];rfl
def YC(H:U)(ls:List Int)(d:D):Prop:=d=dN 1 f1 ls\/(ls≠[]/\∃v g,d = .fm v g 1 0 ls.length/\H[v]? = some (.row 3 g (cl f1 ls)))
def VD(H:U)(d:D):Jd->Prop
 | .v a ls=>∃x,d = .tup [.agg [.i a,x],.i 0]/\YC H ls x
 | .none=>d = .tup [.agg [.i 0,.fw],.i 270]
 | .tP=>d = .tup [.agg [.i 0,.fw],.i 180]
structure JP(g:fu)(l:List Pos)(nx:List (List Int))(iS:D)(cm:List gx)(H H':U)(ck:Nat)(J:Jd)(d:D):Prop where
 vd:VD H' d J
 ok:jC H'.length H'
 kp:∀v o,H[v]? = some o->v≠ck->H'[v]? = some o
 ct:∃sr,H'[ck]? = some (.row 168 0 (mN g l nx iS (.fm sr 0 1 0 l.length)))/\(J = .none->∃ow P Q,lY H' ck sr l.length (λj:Nat=>gw cm (j:Int)) ow P Q)
theorem aaL(g:fu)(hg:gu g)(l:List Pos)(G:oC g l)(h0:0<l.length)(h9:l.length<=1000){H:U}{ck:Nat}{L:List Cw}{old V:D}(hd:CV H ck L V)(ft:jC H.length H)
  (lq:H[ck]? = some (.row 168 0 (mN g l (fQ g l) V old))) (hL:∀x∈L,x.ok) (hb:∀x∈L,∀r∈x.c.es,r.2<=4000) (h8:L.length<=100000) :
  Wf T 64 [.ptr ck 0 0] H (λd H'=>JP g l (fQ g l) V (cs L) H H' ck (mA (lM g l (fQ g l)) l.length (iP l.length) (cs L)) d):=by
 have EA:=Z2 L;have Ek:=@adw (lM g l (fQ g l)) l.length (iP l.length) (cs L);have O:=@adz (lM g l (fQ g l)) l.length (iP l.length) (cs L);have B:=@adA (lM g l (fQ g l)) l.length (iP l.length) (cs L);have f:=@adx (lM g l (fQ g l)) l.length (iP l.length) (cs L);obtain⟨J,hJ⟩:∃J,mA (lM g l (fQ g l)) l.length (iP l.length) (cs L)=J:=⟨_,rfl⟩;rw[hJ]at Ek O B f ⊢;rw[EA]at Ek O B f;have wH:jC (H ++ [Ob.row 89 0 [.i 0,.fw]]).length (H ++ [Ob.row 89 0 [.i 0,.fw]]):=Qf ft rfl λo ho=>by rw[List.mem_singleton.1 ho];rfl
 have UF:=mG lq;refine Yg GY ?_;simp[GY];refine fL.lG rfl rfl (aaT (H:=H ++ [.row 89 0 [.i 0,.fw]]) (hd.app _) wH (ln lq) hL h8 h9 h0) ?_;rintro d H1 ⟨ow,P,Q,z⟩;obtain⟨m,h5⟩:=z.kp H.length (.row 89 0 [.i 0,.fw]) (by simp) (by omega);obtain⟨bad,zO⟩:∃bad,jx (λc => !iP l.length c) (cs L) L.length=bad:=⟨_,rfl⟩;rw[zO]at z Ek O B f;have R:=z.ct
 have N:H1[ck]? = some (.row 168 0 [.i g.size,.sl 1 (g.next.map fI),dI g.iO,.sl 3 (g.kinds.map Kind.cells),.i g.fY,.b g.nL,dN 4 Clause.cells g.clauses,.i g.blocked,.i g.u4,gC l,.sl 1 ((fQ g l).map fN),V,.fm (H ++ [Ob.row 89 0 [.i 0,.fw]]).length 0 1 0 l.length]):=by rw[R];unfold mN;simp
 obtain⟨sr,Pe⟩:∃sr,(H ++ [Ob.row 89 0 [.i 0,.fw]]).length=sr:=⟨_,rfl⟩;rw[Pe]at z R N;have pa:∀v o,H[v]? = some o->v≠ck->H1[v]? = some o:=λv o S G=>(z.kp v o (ln S) G).1
 have j':∀(x:Ob),nP H1.length x=true->jC (H1.set H.length x).length (H1.set H.length x)/\(∀v o,H[v]? = some o->v≠ck->(H1.set H.length x)[v]? = some o)/\(H1.set H.length x)[ck]? = some (.row 168 0 (mN g l (fQ g l) V (.fm sr 0 1 0 l.length))):=λx b4=>by
  refine⟨by rw[aF];exact AE z.ok b4,λv o S G=>?_,?_⟩
  .rw[bQ (by have:=mG S;omega)];exact pa v o S G
  .rw[bQ (by omega)];exact R
 rcases z.bd with⟨sh,rfl⟩|⟨zN,v,gn,rfl,tV,ve⟩
 .have zL:∀x∈L,iP l.length x.c=true:=λx F=>by
   have b:=zO;rw[sh,<-EA,ti]at b
   cases e:iP l.length x.c with
   | true=>rfl
   | false=>exact absurd b (Cn.2 ⟨x.c,au.2 ⟨x,F,rfl⟩,by simp[e]⟩)
  have c1:hM (iP l.length) (cs L) L.length=λj:Nat=>gw (cs L) (j:Int):=funext λj=>by
   rw[<-EA]
   exact ack (λc G=>by
    obtain⟨x,F,rfl⟩:=au.1 G
    exact zL x F) j
  have C:=z.sg;rw[c1]at C;have Zi:=aaU C h9;have o7:(mN g l (fQ g l) V (.fm sr 0 1 0 l.length))[12]? = some (.fm sr 0 1 0 l.length):=by unfold mN;simp
  have c3:∀x∈L,x.full:=λx F=>⟨hL x F,λ_=>by
   have:=zL x F;unfold iP at this;rw[Bool.and_eq_true]at this
   exact(Ms this.1).2.2⟩
  have b5:∀j:Int,0<=j->j<l.length->∀r∈sd (cs L) j,r.2<=4000:=λj _ _ r hr=>by obtain⟨c,G,h1,rfl⟩:=uA.1 hr;obtain⟨x,F,rfl⟩:=au.1 G;obtain⟨_,j0,j1⟩:=Cw.ab3 (c3 x F) h1;exact hb x F _ (fM (by omega) j1)
  have O:=@O sh;have B:=@B sh;have f:=f sh;have Z:∀j:Int,0<=j->gw (cs L) ((j.toNat:Nat):Int)=gw (cs L) j:=λj j0=>by rw[show((j.toNat:Nat):Int)=j by omega]
  have q:∀o,(H1.set H.length o)[H.length]? = some o:=λo=>aX (mG m);simp[N];refine ja N ?_;refine fL.lG rfl rfl Zi ?_;rintro _ H' ⟨rfl,rfl⟩
  by_cases he:∃j,j<l.length/\(gw (cs L) ((j:Nat):Int)).length=0
  .rw[decide_eq_true he];obtain⟨j,hj,pY⟩:=he;have W:=@O (j:Int) (by omega) (by omega) (N1.1 pY);subst W;simp[m,q];refine kl m q ?_;obtain⟨f1,f2,f3⟩:=j' (.row 89 0 [.i 0,.fw]) rfl;exact⟨rfl,f1,f2,sr,f3,λh=>by cases h⟩
  .rw[decide_eq_false he];have hs:∀j:Int,0<=j->j<l.length->sd (cs L) j≠[]:=λj j0 j1 h=>he ⟨j.toNat,by omega,by rw[Z j j0];exact N1.2 h⟩;have B:=@B hs;have f:=f hs;have Uj:(cs L).length<=100000:=by rw[EA];exact h8
   clear he Ek O;simp[N];refine ja N ?_;refine fE.e (0:Int) (λy=>[(0,.ptr ck 0 0),(2,.ptr H.length 0 0),(27,.i l.length),(28,.i y)]) (λy=>H') (λy=>(0<=y/\y<=l.length)/\∀j:Int,0<=j->j<y->imp (cs L) j = []) (λy=>(l.length-y).toNat) ?_ ?_
   .exact⟨by simp,λj j0 j1=>by omega⟩
   rintro y ⟨⟨t,y1⟩,Y⟩;dsimp only at t y1 Y ⊢
   by_cases p:y<l.length
   .have BA:=NI (H:=H') C z.ok R o7 Uj t (by omega) (Z y t) (w:=λr => !lW r) λr dst s K _ k=>Yc (aaW r) k;obtain⟨I,X⟩:∃I,imp (cs L) y=I:=⟨_,rfl⟩;have c4:jx (λc=>jZ c y && !lW (kb c y)) (cs L) (cs L).length=I:=X;rw[c4]at BA;simp[p];refine fo ?_;refine fL.lG rfl rfl BA ?_;rintro _ H2 ⟨rfl,rfl⟩
    by_cases hz:I = []
    .have px:∀j:Int,0<=j->j<y+1->imp (cs L) j = []:=λj j0 j1=>by
      by_cases e:j=y
      .rw[e,X,hz]
      .exact Y j j0 (by omega)
     subst hz;simp;refine fo ?_;refine LJ.i (y+1) (by simp) rfl rfl rfl ⟨by omega,ie,px⟩
    .have W:=B t p (by rw[X];exact hz) Y;rw[X]at W;subst W;have jB:0<I.length:=av.2 hz;simp[m,q,jB];refine pR m q jB ?_;obtain⟨f1,f2,f3⟩:=j' (.row 89 0 [.i y,dN 1 f1 I]) (by simp);exact⟨⟨_,rfl,.inl rfl⟩,f1,f2,sr,f3,λh=>by cases h⟩
   have E8:y=l.length:=by omega
   subst E8;have hp:∀j:Int,0<=j->j<l.length->∀r∈sd (cs L) j,lW r=true:=λj j0 j1=>imp_nil (Y j j0 j1);have f:=f Y;clear B Y t y1 p;simp[N];refine ja N ?_;have M:=C.row;refine fE.e (0:Int) (λy=>[(0,.ptr ck 0 0),(2,.ptr H.length 0 0),(7,.i (lR (cs L) y.toNat)),(44,.fm sr 0 1 0 l.length),(45,.i l.length),(46,.i y)]) (λy=>H') (λy=>0<=y/\y<=l.length) (λy=>(l.length-y).toNat) ?_ ?_
   .simp
   rintro y ⟨t,y1⟩;dsimp only at t y1 ⊢
   by_cases p:y<l.length
   .have A:y.toNat<l.length:=by omega
    have E:H'[P y.toNat]? = some (.map KS (il (Q y.toNat) 0 (gw (cs L) y))):=by have:=(C.mp y.toNat A).1;rw[Z y t]at this;exact this
    have hS:=YT (cs L) t
    have fZ:0<=lR (cs L) y.toNat->lR (cs L) y.toNat<l.length:=λh=>by have:=(Sg (n:=y.toNat) h).1;omega
    obtain⟨a,ha⟩:∃a,lR (cs L) y.toNat=a:=⟨_,rfl⟩;rw[ha]at hS fZ ⊢;unfold DC at hS
    by_cases h1:1<(gw (cs L) y).length
    .have UL:=KJ.1 h1
     by_cases b:a<0
     .rw[if_pos ⟨UL,.inl b⟩]at hS;simp[p,M,A,E,h1,b];(with_reducible repeat' first|refine Xk ?_<;>try simp[p,M,A,E,h1,b]|refine Xs ?_ ?_<;>intro h<;>(try intro h')<;>(try simp[h,p,M,A,E,h1,b])<;>try omega|refine Xg ?_|omega);refine LJ.i (y+1) (by simp[hS]) rfl rfl rfl mb
     .have Sy:=NJ (H:=H') C z.ok R o7 t (by omega) (Z y t) (hp y t p);have Sz:=NJ (H:=H') C z.ok R o7 (by omega:0<=a) (by have:=fZ (by omega);omega) (Z a (by omega)) (hp a (by omega) (fZ (by omega)));obtain⟨u,hu⟩:∃u,lx (sd (cs L) y)=u:=⟨_,rfl⟩;obtain⟨v,S⟩:∃v,lx (sd (cs L) a)=v:=⟨_,rfl⟩;rw[hu]at Sy;rw[S]at Sz;rw[hu,S]at hS;simp[p,M,A,E,h1,b];(with_reducible repeat' first|refine Xk ?_<;>try simp[p,M,A,E,h1,b]|refine Xs ?_ ?_<;>intro h<;>(try intro h')<;>(try simp[h,p,M,A,E,h1,b])<;>try omega|refine Xg ?_|omega);refine fL.lG rfl rfl Sy ?_;rintro _ H2 ⟨rfl,rfl⟩;simp;refine fL.lG rfl rfl Sz ?_;rintro _ H2 ⟨rfl,rfl⟩
      by_cases h3:u<v
      .rw[if_pos ⟨UL,.inr h3⟩]at hS;simp[h3];refine ja h3 ?_;refine LJ.i (y+1) (by simp[hS]) rfl rfl rfl mb
      .rw[if_neg (λh=>by rcases h.2 with h|h<;>omega)]at hS;simp[h3];refine ja h3 ?_;refine LJ.i (y+1) (by simp[hS]) rfl rfl rfl mb
    .rw[if_neg (λh=>h1 (KJ.2 h.1))]at hS;simp[p,M,A,E,h1];(with_reducible repeat' first|refine Xk ?_<;>try simp[p,M,A,E,h1]|refine Xs ?_ ?_<;>intro h<;>(try intro h')<;>(try simp[h,p,M,A,E,h1])<;>try omega|refine Xg ?_|omega);refine LJ.i (y+1) (by simp[hS]) rfl rfl rfl mb
   have E8:y=l.length:=by omega
   subst E8;rw[b9];have hD:=@Sg (cs L) l.length;have DK:=λi=>aaY g hg l G rfl C z.ok R Uj (i:=i);obtain⟨a,ha⟩:∃a,lR (cs L) l.length=a:=⟨_,rfl⟩;rw[ha]at f hD ⊢
   by_cases b:a<0
   .rw[if_pos b]at f;subst f;simp[b,m,q];refine pR b m q ?_;obtain⟨f1,f2,f3⟩:=j' (.row 89 0 [.i 0,.fw]) rfl;exact⟨rfl,f1,f2,sr,f3,λ_=>⟨ow,P,Q,C.aj8 h5 _⟩⟩
   .rw[if_neg b]at f;have hD:=hD (by omega);have DK:=DK a (by omega) hD.1 (λj hj=>rfl) hp b5 hs;rw[EA]at DK;obtain⟨I,X⟩:∃I,jx (pN (lM g l (fQ g l)) (cs L) a) (cs L) L.length=I:=⟨_,rfl⟩;rw[X]at DK f;subst f;simp[b,m,q];refine pR b m q ?_;refine fL.lG rfl rfl DK ?_;rintro _ H2 ⟨rfl,rfl⟩;simp[m,q];refine kl m q ?_;obtain⟨f1,f2,f3⟩:=j' (.row 89 0 [.i a,dN 1 f1 I]) (by simp);exact⟨⟨_,rfl,.inl rfl⟩,f1,f2,sr,f3,λh=>by cases h⟩
 .have jB:0<bad.length:=av.2 zN;have q:∀o,(H1.set H.length o)[H.length]? = some o:=λo=>aX (mG m);have W:=Ek zN;subst W;have iC:=mG tV;obtain⟨f1,f2,f3⟩:=j' (.row 89 0 [.i (-1),.fm v gn 1 0 bad.length]) (by simp[iC]);simp[m,q];refine kl m q ?_;exact⟨⟨_,rfl,.inr ⟨zN,v,gn,rfl,by rw[bQ (λe=>by rw[<-e,h5]at ve;simp at ve)];exact tV⟩⟩,f1,f2,sr,f3,λh=>by cases h⟩
