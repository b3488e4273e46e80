/- Part 41 of DisputeSettles. -/
import Derived.Test.YtmehofoficaelaaGreatDoorS40
set_option linter.all false
namespace Go.Proofs.YtmehofoficaelaaGreatDoor
open Go Go.AL Classical
set_option maxRecDepth 10000
set_option maxHeartbeats 16000000
attribute [-simp] tH
def kn(g:gj)(l:List Pos)(nx:List (List Int))(dcl sd:D):List D:=g.cells ++ [gZ l,.sl 1 (nx.map fN),dcl,sd]
def sN{H:U}{v:Nat}{o:Ob}(h:H[v]? = some o):H.set v o=H:=by obtain⟨h1,a⟩:=ae.1 h;rw[<-a,eG]
def age{p:gK->Bool}{s:gK->gd}{cl:List gK}{n t:Nat}{r:gd}{x:List Int}(h:od r (ph p s cl n)=some (t,x)):x.length<=n:=by obtain⟨h1,_⟩:=zT (k:=0) h;rw[(Rp (List.mem_of_getElem? h1)).1];exact AI _ _ ((EP _ _ _).imp λh e=>by omega) λk a=>(AA.1 a).1
def agf{p:gK->Bool}{s:gK->gd}{cl:List gK}{n t:Nat}{r:gd}{x:List Int}(h:od r (ph p s cl n)=some (t,x)):x≠[]:=by obtain⟨h1,_⟩:=zT (k:=0) h;exact(Rp (List.mem_of_getElem? h1)).2
def NU{L:List Cw}{k:Int}(k0:0<=k)(a:k<L.length):gt (cs L) k=(gt L k).c:=by unfold cs;rw[iZ k0 (by rw[List.length_map];exact a),iZ k0 a,List.getElem_map]
def AK{n t g:Nat}{cs:List D}(h:gG cs=true):nj n (.row t g cs)=true:=List.all_eq_true.2 λd a=>AZ (lT h d a)
def CV(H:U)(ck:Nat)(L:List Cw)(dcl:D):Prop:=
 dcl = .sl 36 (L.map ib)\/(L = []/\dcl = .gg)\/∃v g,v≠ck/\dcl = .fZ v g 36 0 L.length/\H[v]? = some (.row 72 g (cl ib L))
def CV.len{H:U}{ck:Nat}{L:List Cw}{dcl:D}(h:CV H ck L dcl)(H':U):mX .slice dcl H'=some (.i L.length):=by
 rcases h with rfl|⟨rfl,rfl⟩|⟨v,g,_,rfl,_⟩
 .simp
 .rfl
 .simp
def CV.ix{H:U}{ck:Nat}{L:List Cw}{dcl:D}(h:CV H ck L dcl){k:Int}(k0:0<=k)(a:k<L.length) :
  ∃p,mG 36 dcl (.i k)=some p/\∀H':U,(∀(v:Nat) (o:Ob),H[v]? = some o->v≠ck->H'[v]? = some o)->wC 36 p H'=some (.agg ((ib (gt L k)).take 36)):=by
 have b:(ib (gt L k)).length=36:=Fl.len _;rcases h with rfl|⟨rfl,rfl⟩|⟨v,g,hc,rfl,hv⟩
 .refine⟨.gC (ib (gt L k)),?_,λH' _=>?_⟩
  .unfold mG;dsimp only;rw[if_pos ⟨rfl,k0,by rw[List.length_map];exact a⟩,iZ k0 a];simp[List.getD,List.getElem?_eq_getElem (show k.toNat<L.length by omega)]
  .simp[b]
 .simp at a;omega
 .refine⟨.ptr v g (k.toNat*36),?_,λH' c=>?_⟩
  .simp[k0,a]
  .have:=c v _ hv hc;have d:k.toNat<L.length:=by omega
   simp[this,d,b]
def CV.app{H:U}{ck:Nat}{L:List Cw}{dcl:D}(h:CV H ck L dcl)(G:U):CV (H++G) ck L dcl:=by
 rcases h with h|h|⟨v,g,b,e,a⟩
 .exact .inl h
 .exact .inr (.inl h)
 .exact .inr (.inr ⟨v,g,b,e,iy a⟩)
def aeY{H:U}{ck:Nat}{g:gj}{l:List Pos}{nx:List (List Int)}{L:List Cw}{old dcl:D}(hd:CV H ck L dcl)(gi:ju H.length H)(J:H[ck]? = some (.row 168 0 (kn g l nx dcl old)))(hL:∀x∈L,x.ok)(h8:L.length<=100000)(h9:l.length<=1000)(h0:0<l.length) :
  Wf T 116 [.ptr ck 0 0] H (λd H'=>∃ow P Q,HI H H' ck H.length l.length (.row 168 0 (kn g l nx dcl (.fZ H.length 0 1 0 l.length))) (hM (jm l.length) (cs L) L.length) (kc (λc => !jm l.length c) (cs L) L.length) d none ow P Q):=by
 have oS:=js J;have uX:=hd.len;have jq:jv (H.length+1) dcl=true:=Fi (by omega) (List.all_eq_true.1 (gi _ (List.mem_of_getElem? J)) dcl (by unfold kn;simp));have hG:GH H ck:=⟨oS,gi⟩;have nV:∀R o,(H++R).set ck o=H.set ck o++R:=λR o=>aO _ _ oS;have tT:∀R:U,(H++R)[ck]? = some (.row 168 0 (kn g l nx dcl old)):=λR=>iy J;have hz:=aos H.length l.length;obtain⟨C,hC⟩:∃C,Ob.row 168 0 (kn g l nx dcl (.fZ H.length 0 1 0 l.length))=C:=⟨_,rfl⟩
 have g1:nj (H.length+1) C=true:=by rw[<-hC];unfold kn;simp[jq]
 have gv:=HI.start (n:=l.length) gi J g1;rw[hC];have DY:C = .row 168 0 (g.cells ++ [gZ l,.sl 1 (nx.map fN),dcl,.fZ H.length 0 1 0 l.length]):=hC.symm;have DZ:∀sd,(Ob.row 168 0 [.i g.size,.sl 1 (g.next.map fI),dI g.jw,.sl 3 (g.kinds.map Kind.cells),.i g.gM,.b g.oH,dN 4 Clause.cells g.clauses,.i g.blocked,.i g.vJ,gZ l,.sl 1 (nx.map fN),dcl,sd]) = .row 168 0 (kn g l nx dcl sd):=λsd=>by unfold kn;simp
 have W:∀(o:Ob) (R:U),(H.set ck o++R)[ck]? = some o:=λo R=>hG.iy;have Of:∀(o:Ob) (R:U),(H.set ck o++R)[H.length]? = R[0]? := λo R=>hG.agc;have ri:∀(o o':Ob) (R:U),(H.set ck o++R).set H.length o'=H.set ck o++R.set 0 o':=λo o' R=>hG.aoI;refine Yg J9 ?_;simp[J9,J,tT,nV,kn,<-hz,W];(with_reducible repeat' first|refine Xk ?_<;>try simp[J,tT,nV,kn,<-hz,W]|refine Xs ?_ ?_<;>intro h<;>(try intro Z)<;>(try simp[h,J,tT,nV,kn,<-hz,W])<;>try omega|refine Xg ?_|omega);refine gp.s (by simp[tT,nV,kn];rfl) ?_;rw[DZ,hC];refine gp.e (0:Int) (λy=>[(0,.ptr ck 0 0),(3,.gg),(23,.i l.length),(24,.i y)]) (λy=>H.set ck C++(.row 170 0 (pE H.length l.length y.toNat)::List.replicate y.toNat (.map KS []))) (λy=>0<=y/\y<=l.length) (λy=>(l.length-y).toNat) ?_ ?_
 .simp
 rintro y ⟨y0,y1⟩;dsimp only at y0 y1 ⊢
 by_cases hy:y<l.length
 .have u6:=aou (b:=H.length) (n:=l.length) (k:=y.toNat) (by omega);have iB:=aby H.length l.length y.toNat;simp[hy,W,Of,ri,DY,iB];(with_reducible repeat' first|refine Xk ?_<;>try simp[hy,W,Of,ri,DY,iB]|refine Xs ?_ ?_<;>intro h<;>(try intro Z)<;>(try simp[h,hy,W,Of,ri,DY,iB])<;>try omega|refine Xg ?_|omega)
  have e5:pt (pE H.length l.length y.toNat) y (.gH (H.length+(y.toNat+1)))=pE H.length l.length (y.toNat+1):=by rw[<-u6];unfold pt;simp[show(y+1).toNat=y.toNat+1 by omega]
  refine LJ.i (y+1) (by simp) ?_ rfl rfl mj;rw[e5,DZ,hC,show(y+1).toNat=y.toNat+1 by omega,eN];rfl
 have yG:y=l.length:=by omega
 subst yG;obtain⟨ow,P,Q,a⟩:=gv;rw[bB];obtain⟨H1,BH⟩:∃H1,H.set ck C++(.row 170 0 (pE H.length l.length l.length)::List.replicate l.length (.map KS []))=H1:=⟨_,rfl⟩;rw[BH]at a ⊢;have A:=a.ct;rw[DY]at A;clear BH W Of ri hy y0 y1;simp[A,uX];refine kJ A uX ?_;refine gp.e ((H1,0,[],.gg):U×Int×List Int×D) (λy=>[(0,.ptr ck 0 0),(3,y.2.2.2),(38,dcl),(39,.i L.length),(40,.i y.2.1)]) (λy=>y.1) (λy=>(0<=y.2.1/\y.2.1<=L.length)/\y.2.2.1=kc (λc => !jm l.length c) (cs L) y.2.1.toNat/\y.2.2.1.length<=y.2.1.toNat/\∃ow P Q,HI H y.1 ck H.length l.length C (hM (jm l.length) (cs L) y.2.1.toNat) y.2.2.1 y.2.2.2 none ow P Q) (λy=>(L.length-y.2.1).toNat) ?_ ?_
 .exact⟨by simp,rfl,by simp,ow,P,Q,a⟩
 clear a A;rintro⟨Hc,k,bad,QN⟩ ⟨⟨k0,k1⟩,BT,lh,ow,P,Q,a⟩;dsimp only at k0 k1 BT lh a ⊢
 by_cases Y:k<L.length
 .obtain⟨pp,sH,nI⟩:=hd.ix k0 Y;have nI:=nI Hc λv o hv hc=>(a.kp v o hv hc).1;have N:=hL _ (gA k0 Y);have c1:=aeJ (gt L k) N;have E:=ahB (p:=λc => !jm l.length c) k0 Y;rw[<-BT]at E;have vU:=NF N;rw[<-vU]at c1;have s:(ib (gt L k)).length=36:=Fl.len _;have gO:gG (ib (gt L k))=true:=Fl.cl _;have q:(ib (gt L k)).take 36=ib (gt L k):=af (by omega);have A:=a.ct;rw[DY]at A;have z:∀R:U,(Hc++R)[ck]? = some (.row 168 0 (g.cells ++ [gZ l,.sl 1 (nx.map fN),dcl,.fZ H.length 0 1 0 l.length])):=λR=>iy A;obtain⟨p,hp⟩:∃p,snd (gt L k).c=p:=⟨_,rfl⟩;rw[hp]at c1;simp[Y,sH,nI];refine Dz s q sH nI ?_;simp[s,q];refine jh.c rfl rfl c1 (by simp[gO]) (by simp) ?_;have u:jm l.length (gt L k).c=(p&&decide ((gt L k).c.hi<=l.length)):=by unfold jm;rw[hp]
  have B:ib (gt L k)=D.i (gt L k).c.who::D.i (gt L k).c.lo::D.i (gt L k).c.hi::dE (gt L k).em (gt L k).c.es::cl fU (gt L k).c.root:=by rw[vU];unfold Cw.cells;rfl
  have HC:(k.toNat:Int)=k:=by omega
  have N4:jm l.length (gt L k).c=false->hM (jm l.length) (cs L) (k+1).toNat=hM (jm l.length) (cs L) k.toNat:=λh=>by rw[show(k+1).toNat=k.toNat+1 by omega];refine ags ?_;rw[HC,NU k0 Y];exact h
  cases p
  .rw[Bool.false_and]at u;simp only[u,Bool.not_false,if_true]at E
   have hX:(ib (gt L k)).take 36++(D.i 0::D.i 0::D.i 0::D.gg::AL.cl fU (zs 32)).drop (min 36 (ib (gt L k)).length)=ib (gt L k):=by rw[q,s];simp
   simp[s,q];refine kJ s q ?_;rcases a.bd with⟨rfl,rfl⟩|⟨BS,v,gn,rfl,G,vP⟩
   .simp;refine gf ?_;refine LJ.i (_,k+1,[k],.fZ (Hc.length+2) 0 1 0 1) (by simp) rfl rfl rfl ?_;refine⟨by dsimp only;omega,iE,E.symm,by simp;omega,?_⟩;dsimp only;rw[N4 u,hX];have m:=(a.more (o:=.row 72 0 (ib (gt L k))) (AK gO) (7,0,0)).more (o:=.row 3 0 [.i k]) rfl (7,0,0);obtain⟨o4,D4⟩:=m.VI k;exact⟨o4,P,Q,by simpa[rz,iM]using D4⟩
   .have Ac:∀R:U,(Hc++R)[v]? = some (.row 3 gn (AL.cl f1 bad)):=λR=>iy G;have Hu:∀(R:U) (o:Ob),(Hc++R).set v o=Hc.set v o++R:=λR o=>aO _ _ (js G);simp[Ac,Hu];refine kJ Ac Hu ?_;refine LJ.i (_,k+1,bad ++ [k],.fZ v (gn+1) 1 0 (bad.length+1)) (by simp) rfl rfl rfl ?_;refine⟨by dsimp only;omega,iE,E.symm,by simp;omega,?_⟩;dsimp only;rw[N4 u,hX];have m:=((a.VJ (k:=k) BS G vP).more (o:=.row 72 0 (ib (gt L k))) (AK gO) (7,0,0)).more (o:=.row 3 0 [.i k]) rfl (7,0,0);exact⟨_,P,Q,by simpa using m⟩
  .rw[eA]at u
   by_cases B8:(gt L k).c.hi<=l.length
   .rw[decide_eq_true B8]at u;simp only[u,Bool.not_true,bG,if_false]at E;have V:¬(l.length:Int)<(gt L k).c.hi:=by omega
    have Ia:=Jq hp
    have hX:(ib (gt L k)).take 36++(D.i 0::D.i 0::D.i 0::D.gg::AL.cl fU (zs 32)).drop (min 36 (ib (gt L k)).length)=ib (gt L k):=by rw[q,s];simp
    have pv:=QL N.em
    have Yw:(gt L k).c.root.take 32++(zs 32).drop (min 32 (gt L k).c.root.length)=(gt L k).c.root:=by rw[N.root,af (by rw[N.root];omega)];simp
    simp[s,q,hX,B,z,V];(with_reducible repeat' first|refine Xk ?_<;>try simp[s,q,hX,B,z,V,pv]|refine Xs ?_ ?_<;>intro h<;>(try intro Z)<;>(try simp[h,s,q,hX,B,z,V,pv])<;>try omega|refine Xg ?_|omega);simp[pv,Yw];refine gp.s (by simp[Yw,<-B];rfl) ?_;rw[hX];have hB:=a.box (o:=.row 72 0 (ib (gt L k))) (AK gO);have B':(gt L k).c.hi=(gt L k).c.lo+(gt L k).c.es.length:=by omega
    have X:gt (cs L) (k.toNat:Int)=(gt L k).c:=by rw[HC,NU k0 Y]
    refine gp.e ((Hc ++ [.row 72 0 (ib (gt L k))],0):U×Int) (λy=>[(0,.ptr ck 0 0),(3,QN),(5,.i k),(6,.ptr Hc.length 0 0),(38,dcl),(39,.i L.length),(40,.i k),(63,dE (gt L k).em (gt L k).c.es),(64,.i (gt L k).c.es.length),(65,.i y.2)]) (λy=>y.1) (λy=>(0<=y.2/\y.2<=(gt L k).c.es.length)/\∃ow P Q,HI H y.1 ck H.length l.length C (hP (jm l.length) (cs L) k.toNat y.2.toNat) bad QN (some (Hc.length,.row 72 0 (ib (gt L k)))) ow P Q) (λy=>((gt L k).c.es.length-y.2).toNat) ?_ ?_
    .exact⟨by simp,_,P,Q,by rw[show(((Hc ++ [Ob.row 72 0 (ib (gt L k))],0):U×Int).2).toNat=0 from rfl,agv];exact hB⟩
    clear a hB A z;rintro⟨f,e⟩ ⟨⟨e0,e1⟩,ow,P,Q,a⟩;dsimp only at e0 e1 a ⊢
    by_cases O:e<(gt L k).c.es.length
    .have Sb:(gt L k).em=false:=by
      cases h:(gt L k).em with
      | false=>rfl
      | true=>rw[N.em h]at O;simp at O;omega
     have f':dE (gt L k).em (gt L k).c.es=iw (gt L k).c.es:=by rw[Sb];rfl
     have A:=a.ct;rw[DY]at A;have z:∀R:U,(f++R)[ck]? = some (.row 168 0 (g.cells ++ [gZ l,.sl 1 (nx.map fN),dcl,.fZ H.length 0 1 0 l.length])):=λR=>iy A;have RW:∀R:U,(f++R)[Hc.length]? = some (.row 72 0 (ib (gt L k))):=λR=>iy (a.bx _ rfl).1;have py:∀R:U,(f++R)[H.length]? = some (.row 170 0 ((List.range l.length).map λj=>D.gH (P j))):=λR=>iy a.sg.row;obtain⟨r,hr⟩:∃r,gt (gt L k).c.es e=r:=⟨_,rfl⟩;obtain⟨j,hj⟩:∃j:Nat,(gt L k).c.lo+e=j:=⟨((gt L k).c.lo+e).toNat,by omega⟩;have K:j<l.length:=by omega
     have mM:=N.lo;rw[f'];simp[O,hr];refine kJ O hr ?_;simp[z,RW,py,B,hj,K];(with_reducible repeat' first|refine Xk ?_<;>try simp[z,RW,py,B,hj,K]|refine Xs ?_ ?_<;>intro h<;>(try intro Z)<;>(try simp[h,z,RW,py,B,hj,K])<;>try omega|refine Xg ?_|omega);have vX:(gt (cs L) (k.toNat:Int)).lo.toNat+e.toNat=j:=by rw[X];omega
     have gv:hP (jm l.length) (cs L) k.toNat (e+1).toNat=wM (hP (jm l.length) (cs L) k.toNat e.toNat) j (oc r k (hP (jm l.length) (cs L) k.toNat e.toNat j)):=by have:=agu (ad:=jm l.length) (cl:=cs L) (k:=k.toNat) (e:=e.toNat) (by rw[X];exact Ia.1);rw[vX,X,show(e.toNat:Int)=e by omega,hr,HC]at this;rw[show(e+1).toNat=e.toNat+1 by omega];exact this
     have Yf:hP (jm l.length) (cs L) k.toNat e.toNat j=hM (jm l.length) (cs L) k.toNat j:=by have:=Yi (ad:=jm l.length) (cl:=cs L) (k:=k.toNat) (e:=e.toNat) (by rw[X];exact Ia.1);rw[vX]at this;exact this
     have gW:∀t x,od r (hP (jm l.length) (cs L) k.toNat e.toNat j)=some (t,x)->x≠[]/\x.length<=k.toNat:=λt x h=>by rw[Yf]at h;exact⟨agf h,age h⟩
     obtain⟨w,Ye⟩:∃w,hP (jm l.length) (cs L) k.toNat e.toNat=w:=⟨_,rfl⟩;rw[Ye]at a gv gW;clear Ye Yf vX;obtain⟨p1,p2⟩:=a.sg.mp j K;have M:=js p1;have hS:∀(R:U) (o:Ob),(f++R).set (P j) o=f.set (P j) o++R:=λR o=>aO _ _ M
     cases hg:od r (w j)with
     | none=>
      have I:∀R,yQ (.ints [.i64,.i64]) .gg (.gH (P j)) (.agg [.i r.1,.i r.2]) (f++R)=some (.tup [.gg,.i (w j).length],.obj (P j) (.map KS (iY (Q j) 0 (w j) ++ [(lB r,.gg)]))):=λR=>air (iy p1) hg
      have hN:∀(o:Ob) (R:U) (i:Nat),(f.set (P j) o++R)[f.length+i]? = R[i]? := λo R i=>by rw[ai (by rw[ar];omega),ar];congr 1;omega
      have F:∀(d:D) (R:U),Bn (.gH (P j)) (.i (w j).length) d (f.set (P j) (.map KS (iY (Q j) 0 (w j) ++ [(lB r,.gg)]))++R)=some (.any,.obj (P j) (.map KS (iY (Q j) 0 (w j) ++ [(lB r,d)]))):=λd R=>by rw[WL (es:=iY (Q j) 0 (w j) ++ [(lB r,.gg)]) (k:=lB r) (d0:=.gg) (by rw[ah (by rw[ar];exact M),aH M]) (by rw[ai (by rw[Br];omega),Br,b6];rfl)];rw[dD _ _ (by rw[Br];omega),Br,b6];rfl
      have S:∀(R:U) (o o':Ob),(f.set (P j) o++R).set (P j) o'=f.set (P j) o'++R:=λR o o'=>by rw[aO _ _ (by rw[ar];exact M),List.set_set]
      simp[I,hS,hN,F,S];(with_reducible repeat' first|refine Xk ?_<;>try simp[I,hS,hN,F,S]|refine Xs ?_ ?_<;>intro h<;>(try intro Z)<;>(try simp[h,I,hS,hN,F,S])<;>try omega|refine Xg ?_|omega);refine LJ.i (_,e+1) (by simp) rfl rfl rfl ?_;refine⟨by dsimp only;omega,iE,?_⟩;dsimp only;rw[gv];have m:=(a.more (o:=.row 86 0 [.i r.1,.i r.2]) rfl (7,0,0)).more (o:=.row 3 0 [.i k]) rfl (7,0,0);obtain⟨o4,Q',D4,_⟩:=m.new (r:=r) (k:=k) K hg;refine⟨o4,P,Q',?_⟩;have O:(f ++ [Ob.row 86 0 [.i r.1,.i r.2]] ++ [Ob.row 3 0 [.i k]]).length=f.length+2:=by simp
      rw[O,aK,aO _ _ M]at D4;simpa[rz,iM,oI]using D4
     | some tx=>
      obtain⟨t,x⟩:=tx;obtain⟨e3,r8⟩:=gW t x hg;have n':0<x.length:=aw.2 e3;obtain⟨q1,q2⟩:=a.sg.ls j K t _ (zT (k:=k) hg).1;have Ez:=js q1;have tf:P j≠Q j t:=λe=>by rw[e,q2]at p2;simp at p2
      have xv:∀R:U,(f++R)[Q j t]? = some (.row 3 (x.length-1) (AL.cl f1 x)):=λR=>iy q1;have I:∀R,yQ (.ints [.i64,.i64]) .gg (.gH (P j)) (.agg [.i r.1,.i r.2]) (f++R)=some (.tup [oI (Q j t) x,.i t],.obj (P j) (.map KS (iY (Q j) 0 (w j)))):=λR=>ais (iy p1) hg;have Aq:f.set (P j) (.map KS (iY (Q j) 0 (w j)))=f:=sN p1;have hQ:∀(R:U) (o:Ob),(f++R).set (Q j t) o=f.set (Q j t) o++R:=λR o=>aO _ _ Ez
      have F:∀(d:D) (o:Ob) (R:U),Bn (.gH (P j)) (.i t) d (f.set (Q j t) o++R)=some (.any,.obj (P j) (.map KS ((iY (Q j) 0 (w j)).set t (lB r,d)))):=λd o R=>by
       refine WL (k:=lB r) (d0:=oI (Q j t) x) ?_ ?_
       .rw[ah (by rw[ar];exact M),ay (cA tf)];exact p1
       .rw[vL,(zT (k:=k) hg).1];simp
      have S:∀(R:U) (o o':Ob),(f.set (Q j t) o++R).set (P j) o'=(f.set (Q j t) o).set (P j) o'++R:=λR o o'=>aO _ _ (by rw[ar];exact M);simp[I,hS,Aq,xv,hQ,F,S,oI];(with_reducible repeat' first|refine Xk ?_<;>try simp[I,hS,Aq,xv,hQ,F,S,oI]|refine Xs ?_ ?_<;>intro h<;>(try intro Z)<;>(try simp[h,I,hS,Aq,xv,hQ,F,S,oI])<;>try omega|refine Xg ?_|omega);refine LJ.i (_,e+1) (by simp) rfl rfl rfl ?_;refine⟨by dsimp only;omega,iE,?_⟩;dsimp only;rw[gv];have m:=((a.old (r:=r) (k:=k) K hg).more (o:=.row 86 0 [.i r.1,.i r.2]) rfl (7,0,0)).more (o:=.row 3 0 [.i k]) rfl (7,0,0);have lA:(x ++ [k]).length-1=x.length-1+1:=by simp;omega
      have kO:(x ++ [k]).length=x.length+1:=by simp
      have:oI (Q j t) (x ++ [k]) = .fZ (Q j t) (x.length-1+1) 1 0 (x.length+1):=by unfold oI;rw[lA,kO]
      rw[this]at m;unfold rz at m;rw[lA]at m;rw[aK]at m;exact⟨_,P,Q,m⟩
    have YK:e=(gt L k).c.es.length:=by omega
    have yp:hP (jm l.length) (cs L) k.toNat e.toNat=hM (jm l.length) (cs L) (k+1).toNat:=by rw[show(k+1).toNat=k.toNat+1 by omega];exact agt (by rw[X];exact u) (by rw[X];omega)
    rw[yp]at a;simp[O];refine gf ?_;refine LJ.i (f,k+1,bad,QN) (by simp) rfl rfl rfl ?_;exact⟨by dsimp only;omega,iE,E.symm,by dsimp only;omega,ow,P,Q,a.nob⟩
   .rw[decide_eq_false B8]at u;have V:(l.length:Int)<(gt L k).c.hi:=by omega
    simp only[u,Bool.not_false,if_true]at E
    have hX:(ib (gt L k)).take 36++(D.i 0::D.i 0::D.i 0::D.gg::AL.cl fU (zs 32)).drop (min 36 (ib (gt L k)).length)=ib (gt L k):=by rw[q,s];simp
    simp[s,q,hX,B,z,V];(with_reducible repeat' first|refine Xk ?_<;>try simp[s,q,hX,B,z,V]|refine Xs ?_ ?_<;>intro h<;>(try intro Z)<;>(try simp[h,s,q,hX,B,z,V])<;>try omega|refine Xg ?_|omega);rcases a.bd with⟨rfl,rfl⟩|⟨BS,v,gn,rfl,G,vP⟩
    .simp;refine gf ?_;refine LJ.i (_,k+1,[k],.fZ (Hc.length+2) 0 1 0 1) (by simp) rfl rfl rfl ?_;refine⟨by dsimp only;omega,iE,E.symm,by simp;omega,?_⟩;dsimp only;rw[N4 u,hX];have m:=(a.more (o:=.row 72 0 (ib (gt L k))) (AK gO) (7,0,0)).more (o:=.row 3 0 [.i k]) rfl (7,0,0);obtain⟨o4,D4⟩:=m.VI k;exact⟨o4,P,Q,by simpa[rz,iM]using D4⟩
    .have Ac:∀R:U,(Hc++R)[v]? = some (.row 3 gn (AL.cl f1 bad)):=λR=>iy G;have Hu:∀(R:U) (o:Ob),(Hc++R).set v o=Hc.set v o++R:=λR o=>aO _ _ (js G);simp[Ac,Hu];refine kJ Ac Hu ?_;refine LJ.i (_,k+1,bad ++ [k],.fZ v (gn+1) 1 0 (bad.length+1)) (by simp) rfl rfl rfl ?_;refine⟨by dsimp only;omega,iE,E.symm,by simp;omega,?_⟩;dsimp only;rw[N4 u,hX];have m:=((a.VJ (k:=k) BS G vP).more (o:=.row 72 0 (ib (gt L k))) (AK gO) (7,0,0)).more (o:=.row 3 0 [.i k]) rfl (7,0,0);exact⟨_,P,Q,by simpa using m⟩
 have yv:k=L.length:=by omega
 subst yv;rw[bB]at a BT;rw[<-BT];simp;refine gf ?_;exact⟨ow,P,Q,a⟩
end Go.Proofs.YtmehofoficaelaaGreatDoor
namespace Go.Proofs.YtmehofoficaelaaGreatDoor
open Go Go.AL Classical
set_option maxRecDepth 10000
set_option maxHeartbeats 4000000
def VW{n:Nat}{N:Int->Int}{K:Int->Prop}(c:∀i,K i->(0<=i/\i<n)/\0<=N i)(h:∀i,K i->N i=0\/∃k,K k/\N k=N i-1):∀i,K i->N i<n:=by
 have b:∀(a:Nat) (i:Int),K i->N i=a->∀m:Nat,m<=a->∃q,K q/\N q=m:=by
  intro a
  induction a with
  | zero=>exactλi hi e m j=>⟨i,hi,by omega⟩
  | succ a d=>
   intro i hi e m j
   by_cases em:m=a+1
   .exact⟨i,hi,by omega⟩
   rcases h i hi with h1|⟨k,l,h1⟩
   .omega
   .exact d k l (by omega) m (by omega)
 intro i hi;have h0:=c i hi
 have:=EX (fm (n:=(N i).toNat+1)) (m:=(upto n).map λk=>(N k).toNat) λx f=>by obtain⟨q,g,e⟩:=b (N i).toNat i hi (by omega) x (by have:=a8.1 f;omega);exact List.mem_map.2 ⟨q,jd.2 (c q g).1,by rw[e];rfl⟩
 simp[upto]at this;omega
def ah9{A:lG}{n:Nat}{v:List gd}(hS:∀i:Int,0<=i->i<n->∀k∈gt A.nx i,0<=k/\k<n)(h:∀i:Int,0<=i->i<n->ke A v i){i:Int}(i0:0<=i)(e:i<n):0<=(gt v i).2/\(gt v i).2<n:=by
 refine⟨(h i i0 e).n0,VW (N:=λi=>(gt v i).2) (K:=λi=>0<=i/\i<n) (λi hi=>⟨hi,(h i hi.1 hi.2).n0⟩) (λi hi=>?_) i ⟨i0,e⟩⟩;rcases h i hi.1 hi.2 with⟨_,b⟩|⟨_,⟨a,f,b,⟨k,c,d⟩,_⟩|⟨a,f,b,_,k,c,d⟩|⟨b,_⟩⟩
 .left;rw[b]
 .right;exact⟨k,hS i hi.1 hi.2 k c,by rw[b,d]⟩
 .right;exact⟨k,hS i hi.1 hi.2 k c,by rw[b,d]⟩
 .left;rw[b]
def kV(v:List Kn):List gd:=v.map λx=>(x.1,x.2.1)
def kB(v:List Kn):List Bool:=v.map λx => !x.2.2
def BB{v:List Kn}{k:Int}(k0:0<=k)(k1:k<v.length):gt (kV v) k=((gt v k).1,(gt v k).2.1):=by rw[iZ k0 (by unfold kV;rw[List.length_map];exact k1),iZ k0 k1];unfold kV;rw[List.getElem_map]
def xg{v:List Kn}{k:Int}(k0:0<=k)(k1:k<v.length):gt (kB v) k = !(gt v k).2.2:=by rw[iZ k0 (by unfold kB;rw[List.length_map];exact k1),iZ k0 k1];unfold kB;rw[List.getElem_map]
@[local simp] theorem aw7:max (0:Int) (-1)=0:=by decide
noncomputable def pJ(v:List Kn)(x:List Int)(n:Int):Kn:=if Cv (kV v) (kB v) x n then(1,n,true)else if (lR (kV v) (kB v) x x.length).1=x.length/\(lR (kV v) (kB v) x x.length).2=n-1 then(3,n,true)else(0,0,false)
def Xl(v:List Kn)(l:List Int)(n:Int)(A:1<=n/\n<=4000)(h0:0<l.length)(hl:l.length<2 ^ 40)(p:∀k∈l,0<=k/\k<v.length)(w:∀k∈l,(gt v k).2.2=true->0<=(gt v k).2.1) :
  Wf T 129 [.sl 3 (v.map fK),dI l,.i n] [] (Is (.agg [.i (pJ v l n).1,.i (pJ v l n).2.1,.b (pJ v l n).2.2])):=by
 refine Yg Mr ?_;simp[Mr];refine gp.e (0:Int) (λy=>[(0,.sl 3 (v.map fK)),(1,dI l),(2,.i n),(6,.ptr 0 0 0),(7,.i (lR (kV v) (kB v) l y.toNat).1),(8,.i (max 0 (lR (kV v) (kB v) l y.toNat).2)),(9,.i y)]) (λy=>[.row 245 0 [.i 0,.i 0,.b false]]) (λy=>0<=y/\y<=l.length/\∀k∈l.take y.toNat,¬(gt (kB v) k=false/\gt (kV v) k=(3,n-1))) (λy=>(l.length-y).toNat) ?_ ?_
 .simp
 rintro j ⟨j0,j1,j2⟩;dsimp only at j0 j1 j2 ⊢
 by_cases f:j<l.length
 .have a:=p _ (gA j0 f);have c:=apD (v:=kV v) (b:=kB v) (x:=l) j0;have hV:=BB a.1 a.2;have g:=xg a.1 a.2;have B:=P8 (kV v) (kB v) l j.toNat
  have d:¬(gt (kB v) (gt l j)=false/\gt (kV v) (gt l j)=(3,n-1))->∀k∈l.take (j+1).toNat,¬(gt (kB v) k=false/\gt (kV v) k=(3,n-1)):=λh k a=>by
   rw[jn j0 f]at a;rcases List.mem_append.1 a with a|a
   .exact j2 k a
   .rw[List.mem_singleton.1 a];exact h
  rw[hV,g]at d c;simp[f];generalize gt v (gt l j)=r at *;obtain⟨o,m,s⟩:=r;dsimp only at d c hV g ⊢;(with_reducible repeat' first|refine Xk ?_<;>try simp|refine Xs ?_ ?_<;>intro h<;>(try intro z)<;>(try simp[h])<;>try omega|refine Xg ?_|omega)
  .have hl:Cv (kV v) (kB v) l n:=⟨_,gA j0 f,by rw[g];simp[*],by rw[hV];simp[*]⟩;simp[pJ,hl]
  .refine LJ.i (j+1) (by first|rfl|simp[c, *]) (by first|rfl|simp[c, *]) rfl rfl ?_;exact gJ (d (by simp[*]))
  .refine LJ.i (j+1) (by first|rfl|simp[c, *]) (by first|rfl|simp[c, *]) rfl rfl ?_;exact gJ (d (by simp[*]))
  .refine LJ.i (j+1) (by first|rfl|simp[c, *]) (by first|rfl|simp[c, *]) rfl rfl ?_;exact gJ (d (by simp[*]))
 .have u:j=l.length:=by omega
  subst u;have hl:¬Cv (kV v) (kB v) l n:=λ⟨k,a,h⟩=>j2 k (by rw[lr (by omega)];exact a) h
  have i:(lR (kV v) (kB v) l l.length).1=l.length->max 0 (lR (kV v) (kB v) l l.length).2=(lR (kV v) (kB v) l l.length).2:=λe=>by have h1:=P9 _ e 0 h0;have t:=UI _ e 0 h0;have q:=gA (l:=l) (n:=((0:Nat):Int)) (by omega) (by omega);have a:=p _ q;rw[xg a.1 a.2]at t;rw[BB a.1 a.2]at h1;have:=w _ q (by simpa using t.1);dsimp only at h1;omega
  simp[f];(with_reducible repeat' first|refine Xk ?_<;>try simp|refine Xs ?_ ?_<;>intro h<;>(try intro z)<;>(try simp[h])<;>try omega|refine Xg ?_|omega)
  .rw[i ‹_›]at h;simp[pJ,hl, *]
  .rw[i ‹_›]at h;simp[pJ,hl, *]
  .simp[pJ,hl, *]
set_option maxHeartbeats 8000000
def afJ(g:gj)(hg:gU g)(l:List Pos)(b:ox g l)(h0:0<l.length)(v:List gd)(q:v.length=l.length)(t:∀k:Int,0<=k->k<v.length->0<=(gt v k).2/\(gt v k).2<=4000) :
  Wf T 42 [dG g,gZ l,iw v] [] (Ey (λn:Int=>.tup [.i n,.i 0]) λn=>n<0↔∀k:Int,0<=k->k<l.length->ke (ji g l (gw g l)) v k):=by
 have s:=b.len;have E:(gw g l).length=l.length:=by simp[gw]
 have gF:=λi i0 f=>(pC b (i:=i) i0 f).2
 have z:∀k:Int,0<=k->k<l.length->(gt (gw g l) k).length<=4000000000:=λk k0 k1=>by rw[(pC b k0 k1).1,List.length_map];have:=yT hg (b.ok _ (gA k0 k1));omega
 refine Yg Md ?_;simp[Md];refine Yc (f52 g hg l b h0) ?_;simp;(with_reducible repeat' first|refine Xk ?_<;>try simp|refine Xs ?_ ?_<;>intro h<;>(try intro D)<;>(try simp[h])<;>try omega|refine Xg ?_|omega);refine gp.e (0:Int) (λy=>[(2,iw v),(3,.ptr 0 0 0),(8,.sl 1 ((gw g l).map fN)),(30,gZ l),(31,.i l.length),(32,.i y)]) (λy=>[.row 43 0 g.cells]) (λy=>(0<=y/\y<=l.length)/\∀k:Int,0<=k->k<y->ke (ji g l (gw g l)) v k) (λy=>(l.length-y).toNat) ?_ ?_
 .exact⟨by simp,λk k0 k1=>by omega⟩
 rintro i ⟨⟨i0,f⟩,j⟩;dsimp only at i0 f j ⊢
 have p:ke (ji g l (gw g l)) v i->∀k:Int,0<=k->k<i+1->ke (ji g l (gw g l)) v k:=λh k k0 k1=>by
  by_cases e:k=i
  .rw[e];exact h
  .exact j k k0 (by omega)
 by_cases hi:i<l.length
 .have C:=b.ok _ (gA i0 hi)
  have o:¬ke (ji g l (gw g l)) v i->Ex (λn:Int=>.tup [.i n,.i 0]) (λn=>n<0↔∀k:Int,0<=k->k<l.length->ke (ji g l (gw g l)) v k) (.tup [.i i,.i 0]) []:=λh=>
   ⟨i,rfl,rfl,⟨λc=>by omega,λc=>absurd (c i i0 hi) h⟩⟩
  simp[hi,s6];refine gf ?_;refine Yq (f56 v (gt (gw g l) i) (λk d=>by rw[q];exact gF i i0 hi k d) (z i i0 hi) (λk k0 k1=>t k k0 k1)) λr B=>?_;simp;refine gf ?_;refine Yc (f54 g hg (gt l i) C) ?_;simp;have w:(stat g (gt l i)).2=true->(ke (ji g l (gw g l)) v i↔gt v i=((stat g (gt l i)).1,0)):=λh=>aic (A:=ji g l (gw g l)) h;have u:(stat g (gt l i)).2=false->(ke (ji g l (gw g l)) v i↔gt v i=r):=λh=>Dw.iff (A:=ji g l (gw g l)) (λk d=>(t k (gF i i0 hi k d).1 (by rw[q];exact(gF i i0 hi k d).2)).1) h B;(with_reducible repeat' first|refine Xk ?_<;>try simp|refine Xs ?_ ?_<;>intro h<;>(try intro D)<;>(try simp[h])<;>try omega|refine Xg ?_|omega)
  .have a:=(w ‹_›).2 (cG (by assumption) (by assumption));refine LJ.e (i+1) ?_;exact⟨by omega,iE,p a⟩
  .have a:¬ke (ji g l (gw g l)) v i:=λh=>absurd ((w ‹_›).1 h) (by intro e;simp_all);obtain⟨n,h1,c,m⟩:=o a;exact Ey.i n h1 c m
  .have a:=(u (by simp_all)).2 (cG (by simp_all) (by simp_all));refine LJ.e (i+1) ?_;exact⟨by omega,iE,p a⟩
  .have a:¬ke (ji g l (gw g l)) v i:=λh=>absurd ((u (by simp_all)).1 h) (by intro e;simp_all);obtain⟨n,h1,c,m⟩:=o a;exact Ey.i n h1 c m
 .have x:i=l.length:=by omega
  subst x;simp;refine gf ?_;exact Ey.i (-1) rfl rfl ⟨λ_=>j,λ_=>by omega⟩
end Go.Proofs.YtmehofoficaelaaGreatDoor
namespace Go.Proofs.YtmehofoficaelaaGreatDoor
open Go Go.AL Classical
set_option maxRecDepth 10000
set_option maxHeartbeats 16000000
attribute [-simp] tH
def adx{l:List gd}{n:Int}(n0:0<=n)(h:n<l.length)(a:Int):(cl fS l).take (n.toNat*2) ++ .i a::(cl fS l).drop (n.toNat*2+1)=cl fS (pt l n (a,(gt l n).2)):=by
 have e:(cl fS l).drop (n.toNat*2+1) = .i (gt l n).2::(cl fS l).drop (n.toNat*2+2):=by
  have h1:(cl fS l).drop (n.toNat*2) = .i (gt l n).1 :: .i (gt l n).2::cl fS (l.drop (n.toNat+1)):=by rw[uQ,n5 n0 h,mD,xd];rfl
  have b:(cl fS l).drop (n.toNat*2+2)=cl fS (l.drop (n.toNat+1)):=by rw[show n.toNat*2+2=(n.toNat+1)*2 by omega,uQ]
  rw[b,<-bZ,h1];rfl
 rw[e];exact uP a _
def IW{n:Nat}{H G:U}(h:ju H.length H)(a:n=H.length)(b:ju n G):ju (H++G).length (H++G):=by subst a;rw[aj];exact uw (xG (by omega) h) (xG (by omega) b)
section
variable{H:U}{ck sr n:Nat}{M:Nat->kd}{ow:Nat->Nat×Nat×Nat}{P:Nat->Nat}{Q:Nat->Nat->Nat}{cells:List D}
theorem mn.app(h:mn H ck sr n M ow P Q)(G:U):mn (H++G) ck sr n M ow P Q:=h.mono λ_ _ a _=>iy a
theorem W9(j:mn H ck sr n M ow P Q)(gi:ju H.length H)(f:H[ck]? = some (.row 168 0 cells))(e:cells[12]? = some (.fZ sr 0 1 0 n))
  {cm:List gK} (t:cm.length<=100000) {i:Int} (i0:0<=i) (h:i<n) (hM:M i.toNat=gN cm i) {t2 t3:Nat} (a:H[t2]? = some (.row 157 0 [.ptr ck 0 0])) (u:H[t3]? = some (.row 3 0 [.i i])) (q:gd) :
  Wf T 186 [.agg [.i q.1,.i q.2],.ptr t2 0 0,.ptr t3 0 0] H (λd H'=>d=dN 1 f1 (kc (λc=>kA c i&&decide (kD c i≠q)) cm cm.length)/\H'=H):=by
 have g:∀R:U,(H++R)[t2]? = some (.row 157 0 [.ptr ck 0 0]):=λR=>iy a;have b:∀R:U,(H++R)[t3]? = some (.row 3 0 [.i i]):=λR=>iy u;refine Yg Kp ?_;simp[Kp,g,b];refine gx.kG rfl rfl (Q3 (H:=H ++ [.row 86 0 [.i q.1,.i q.2]]) (j.app _) (IW gi rfl λo l=>by rw[List.mem_singleton.1 l];rfl) (iy f) e t i0 h hM (w:=λr=>decide (r≠q)) λr dst s K m k=>?_) ?_
 .have p:=m H.length (.row 86 0 [.i q.1,.i q.2]) (by simp);exact Yr (afi r q) k rfl rfl (by simp[p])
 .rintro _ H' ⟨rfl,rfl⟩;simp[AD gi]
end
end Go.Proofs.YtmehofoficaelaaGreatDoor
namespace Go.Proofs.YtmehofoficaelaaGreatDoor
open Go Go.AL Classical
set_option maxRecDepth 10000
set_option maxHeartbeats 16000000
attribute [-simp] tH
def qq(cm:List gK)(m j k:Int)(V:List gd)(seen:List Nat):List gd:=if seen≠[]/\(gN cm j).length=1/\(nC (sd cm j)).2<m then pt (pt V k (2,0)) k (nC (sd cm j))else pt V k (2,0)
@[simp] theorem apz(cm:List gK)(m j k:Int)(V:List gd):qq cm m j k V []=pt V k (2,0):=if_neg λh=>h.1 rfl
section
variable{cm:List gK}{m j k:Int}{V:List gd}{seen:List Nat}
theorem ab9(k0:0<=k)(k1:k<V.length):(qq cm m j k V seen).length=V.length:=by
 unfold qq;have h:=iC (l:=V) (v:=((2,0):gd)) k0 k1;split
 .rw[iC k0 (by omega),h]
 .exact h
theorem aca(k0:0<=k)(k1:k<V.length){i:Int}(i0:0<=i)(h:i≠k):gt (qq cm m j k V seen) i=gt V i:=by
 unfold qq;have hl:=iC (l:=V) (v:=((2,0):gd)) k0 k1;split
 .rw[lK k0 (by omega) i0,if_neg h,lK k0 k1 i0,if_neg h]
 .rw[lK k0 k1 i0,if_neg h]
theorem apy(k0:0<=k)(k1:k<V.length)(hs:sd cm j≠[])(d:∀t,t<(gN cm j).length->t∈seen):gt (qq cm m j k V seen) k=yf cm m j:=by
 unfold qq yf;have hl:=iC (l:=V) (v:=((2,0):gd)) k0 k1;have f:(gN cm j).length≠0:=λh=>hs (NT.1 h)
 have b:seen≠[]:=λh=>by have:=d 0 (by omega);rw[h]at this;cases this
 have a:(gN cm j).length=1↔mJ (sd cm j)=false:=by
  have:=G7 (cl:=cm) (i:=j)
  cases e:mJ (sd cm j)with
  | true=>
   rw[e]at this;constructor
   .intro h;have:=this.2 rfl;omega
   .intro h;cases h
  | false=>
   rw[e]at this;constructor
   .intro _;rfl
   .intro _;have g:¬ 1<(gN cm j).length:=λh=>by cases this.1 h
    omega
 by_cases c:mJ (sd cm j)=false/\(nC (sd cm j)).2<m
 .rw[if_pos c,if_pos ⟨b,a.2 c.1,c.2⟩,lK k0 (by omega) k0,if_pos rfl]
 .rw[if_neg c,if_neg λh=>c ⟨a.1 h.2.1,h.2.2⟩,lK k0 k1 k0,if_pos rfl]
end
section
variable{H:U}{ck sr n:Nat}{M:Nat->kd}{ow:Nat->Nat×Nat×Nat}{P:Nat->Nat}{Q:Nat->Nat->Nat}
theorem ae3(g:gj)(hg:gU g)(l:List Pos)(hc:ox g l){dcl:D}(pv:n=l.length)(J:mn H ck sr n M ow P Q)(gi:ju H.length H)(X:H[ck]? = some (.row 168 0 (kn g l (gw g l) dcl (.fZ sr 0 1 0 n))))
  {cm:List gK} (h8:cm.length<=100000) {i:Int} (i0:0<=i) (I:i<n) (hM:∀j,j<n->M j=gN cm j)
  (hp:∀j:Int,0<=j->j<l.length->∀r∈sd cm j,lD r=true) (hb:∀j:Int,0<=j->j<l.length->∀r∈sd cm j,r.2<=4000) (hs:∀j:Int,0<=j->j<l.length->sd cm j≠[]) :
  Wf T 123 [.ptr ck 0 0,.i i] H (λd H'=>d=dN 1 f1 (kc (rE (ji g l (gw g l)) cm i) cm cm.length)/\H'=H):=by
 subst pv;have g4:=hc.len;have v8:=hc.ok _ (gA i0 I);have tX:(gw g l).length=l.length:=by simp[gw]
 have gF:=(pC hc (i:=i) i0 I).2;have gW:=(pC hc (i:=i) i0 I).1
 have r8:(gt (gw g l) i).length<=4000000000:=by rw[gW,List.length_map];have:=yT hg v8;omega
 have Av:(stat g (gt l i)).2=false->0<(gt (gw g l) i).length:=λh=>by
  rw[gW,List.length_map];have:iW g (gt l i)≠[]:=λe=>by unfold stat at h;simp[e]at h
  exact aw.2 this
 have QI:=f54 g hg (gt l i) v8;obtain⟨m,hm⟩:∃m,mh (sd cm i)=m:=⟨_,rfl⟩
 have wj:(stat g (gt l i)).2=true->∀c∈cm,(kA c i&&decide (kD c i≠((stat g (gt l i)).1,0)))=rE (ji g l (gw g l)) cm i c:=λh c _=>by unfold rE;rw[if_pos (show(ji g l (gw g l)).ov i=true from h)];rfl
 have F:(stat g (gt l i)).2=false->(nM ((gt (gw g l) i).map (yf cm m))).1≠2->∀c∈cm,(kA c i&&decide (kD c i≠nM ((gt (gw g l) i).map (yf cm m))))=rE (ji g l (gw g l)) cm i c:=λh f c _=>by unfold rE;rw[if_neg (by rw[show(ji g l (gw g l)).ov i=false from h];simp),hm,aav,show gt (ji g l (gw g l)).nx i=gt (gw g l) i from rfl,if_pos f]
 have C:(stat g (gt l i)).2=false->(nM ((gt (gw g l) i).map (yf cm m))).1=2->∀c∈cm,(kA c i&&decide ((kD c i).1≠2/\(kD c i).2=m))=rE (ji g l (gw g l)) cm i c:=λh f c _=>by unfold rE;rw[if_neg (by rw[show(ji g l (gw g l)).ov i=false from h];simp),hm,aav,show gt (ji g l (gw g l)).nx i=gt (gw g l) i from rfl,if_neg (by rw[f];simp)]
 obtain⟨W,hW⟩:∃W,kc (rE (ji g l (gw g l)) cm i) cm cm.length=W:=⟨_,rfl⟩;have N7:∀p:gK->Bool,(∀c∈cm,p c=rE (ji g l (gw g l)) cm i c)->kc p cm cm.length=W:=λp h=>by rw[<-hW];exact ZF (by omega) h
 rw[hW];obtain⟨nx,lX⟩:∃nx,gw g l=nx:=⟨_,rfl⟩;rw[lX]at X tX gF r8 Av F C N7 wj;obtain⟨st,gv⟩:∃st,stat g (gt l i)=st:=⟨_,rfl⟩;rw[gv]at QI Av wj F C;obtain⟨o,ov⟩:=st;dsimp only at QI Av wj F C;have qf:(kn g l nx dcl (.fZ sr 0 1 0 l.length))[12]? = some (.fZ sr 0 1 0 l.length):=by unfold kn;simp
 have v:∀R:U,(H++R)[ck]? = some (.row 168 0 [.i g.size,.sl 1 (g.next.map fI),dI g.jw,.sl 3 (g.kinds.map Kind.cells),.i g.gM,.b g.oH,dN 4 Clause.cells g.clauses,.i g.blocked,.i g.vJ,gZ l,.sl 1 (nx.map fN),dcl,.fZ sr 0 1 0 l.length]):=λR=>by rw[iy X];unfold kn;simp
 have YC:=js X;have hA:nj H.length (.row 157 0 [.ptr ck 0 0])=true:=by simp[YC]
 have pS:∀(G:U),ju H.length G->ju (H++(Ob.row 157 0 [.ptr ck 0 0]::Ob.row 3 0 [.i i]::G)).length (H++(Ob.row 157 0 [.ptr ck 0 0]::Ob.row 3 0 [.i i]::G)):=λG hG=>IW gi rfl λx J=>by
  rcases ao.1 J with rfl|J
  .exact hA
  .rcases ao.1 J with rfl|J
   .rfl
   .exact hG x J
 have Ho:∀j:Int,0<=j->j<l.length->M j.toNat=gN cm j:=λj j0 j1=>by have:=hM j.toNat (by omega);rwa [show(j.toNat:Int)=j by omega]at this
 refine Yg Kf ?_;simp[Kf,v];refine jD v ?_;refine Yt (QI) ?_;simp[v];cases ov
 .have Av:=Av rfl;have F:=F rfl;have C:=C rfl;obtain⟨x,EI⟩:∃x,gt nx i=x:=⟨_,rfl⟩;rw[EI]at gF r8 Av F C;simp;refine gf ?_;refine gx.w (by simp;rfl) ?_;refine gx.kG rfl rfl (Q4 (H:=H ++ [.row 157 0 [.ptr ck 0 0],.row 3 0 [.i i]]) (J.app _) (pS [] λ_ h=>by cases h) (iy X) qf i0 I (Ho i i0 I) (hp i i0 I)) ?_;rintro _ H' ⟨rfl,rfl⟩;rw[hm];simp[v,EI,s6];(with_reducible repeat' first|refine Xk ?_<;>try simp[v,EI,s6]|refine Xs ?_ ?_<;>intro h<;>(try intro h')<;>(try simp[h,v,EI,s6])<;>try omega|refine Xg ?_|omega)
  have hz:(List.replicate x.length [D.i 0,D.i 0]).flatten=AL.cl fS (List.replicate x.length (0,0)):=by rw[nO,dX,xd]
  refine gp.s (by simp[hz];rfl) ?_;refine gp.e ((0,List.replicate x.length (0,0),[]):Int×List gd×U) (λy=>[(2,.ptr H.length 0 0),(3,.ptr (H.length+1) 0 0),(5,.fn (.func 186) [] [.ptr H.length 0 0,.ptr (H.length+1) 0 0]),(8,.ptr (H.length+2) 0 0),(9,.fZ (H.length+3) 0 2 0 x.length),(53,dN 1 f1 x),(54,.i x.length),(55,.i y.1)]) (λy=>H++(.row 157 0 [.ptr ck 0 0] :: .row 3 0 [.i i] :: .row 3 0 [.i m] :: .row 86 0 (AL.cl fS y.2.1)::y.2.2)) (λy=>(0<=y.1/\y.1<=x.length)/\y.2.1.length=x.length/\(∀j:Int,0<=j->j<y.1->gt y.2.1 j=yf cm m (gt x j))/\(∀j:Int,y.1<=j->j<x.length->gt y.2.1 j=(0,0))/\ju H.length y.2.2) (λy=>(x.length-y.1).toNat) ?_ ?_
  .refine⟨by simp,by simp,λj j0 j1=>absurd j1 (by dsimp only;omega),λj j0 j1=>?_,λ_ h=>by cases h⟩;rw[iZ j0 (by simpa using j1)];simp
  rintro⟨k,V,R⟩ ⟨⟨k0,k1⟩,hV,Aa,RR,hR⟩;dsimp only at k0 k1 hV Aa RR hR ⊢
  by_cases hk:k<x.length
  .obtain⟨j,Y⟩:∃j,gt x k=j:=⟨_,rfl⟩;have a:=gF _ (gA k0 hk);rw[Y]at a;have HZ:=adx k0 (by omega:k<V.length) 2;rw[RR k (by omega) hk]at HZ;obtain⟨p1,_⟩:=J.mp j.toNat (by omega);rw[Ho j a.1 a.2]at p1;have E:∀R:U,(H++R)[sr]? = some (.row 170 0 ((List.range l.length).map λj=>D.gH (P j))):=λR=>iy J.row;obtain⟨p,B⟩:∃p,P j.toNat=p:=⟨_,rfl⟩;obtain⟨q,yE⟩:∃q,Q j.toNat=q:=⟨_,rfl⟩;rw[B,yE]at p1;have A:∀R:U,(H++R)[p]? = some (.map KS (iY q 0 (gN cm j))):=λR=>iy p1;have iL:=js p1;simp[hk,Y,v,HZ,E,B,A,a.1,a.2];(with_reducible repeat' first|refine Xk ?_<;>try simp[hk,Y,v,HZ,E,B,A,a.1,a.2]|refine Xs ?_ ?_<;>intro h<;>(try intro h')<;>(try simp[h,hk,Y,v,HZ,E,B,A,a.1,a.2])<;>try omega|refine Xg ?_|omega);refine gp.s (by simp[HZ];rfl) ?_;refine gp.e (([],[]):List Nat×U) (λz=>[(2,.ptr H.length 0 0),(3,.ptr (H.length+1) 0 0),(5,.fn (.func 186) [] [.ptr H.length 0 0,.ptr (H.length+1) 0 0]),(8,.ptr (H.length+2) 0 0),(9,.fZ (H.length+3) 0 2 0 x.length),(10,.i k),(11,.i j),(53,dN 1 f1 x),(54,.i x.length),(55,.i k),(71,.ptr (H.length+(R.length+4)) 0 0)]) (λz=>H++(.row 157 0 [.ptr ck 0 0] :: .row 3 0 [.i i] :: .row 3 0 [.i m] :: .row 86 0 (AL.cl fS (qq cm m j k V z.1))::(R ++ .jj (.gH p) (gN cm j).length z.1::z.2))) (λz=>z.1.Nodup/\(∀t∈z.1,t<(gN cm j).length)/\ju H.length z.2) (λz=>(gN cm j).length-z.1.length) ?_ ?_
   .exact⟨.nil,λ_ h=>(by cases h),λ_ h=>(by cases h)⟩
   rintro⟨seen,Z⟩ ⟨lz,gL,hZ⟩;dsimp only at lz gL hZ ⊢;simp;refine uJ.at (m:=p) (since:=(gN cm j).length) (seen:=seen) (kk:=KS) (es:=iY q 0 (gN cm j)) (by simp) (by simp[A]) (by simp) (λiJ=>?_) λt kv dv he hi=>?_
   .have iJ:∀t,t<(gN cm j).length->t∈seen:=by simpa using iJ
    simp;refine gf ?_;refine LJ.i (k+1,qq cm m j k V seen,R ++ .jj (.gH p) (gN cm j).length seen::Z) (by simp) (by simp) rfl rfl ?_;refine⟨by dsimp only;omega,iE,by rw[ab9 k0 (by omega)];exact hV,λi' h0 h1=>?_,λi' h0 h1=>?_,uw hR λo b=>?_⟩
    .dsimp only at h1 ⊢
     by_cases e:i'=k
     .subst e;rw[Y];exact apy k0 (by omega) (hs j a.1 a.2) iJ
     .rw[aca k0 (by omega) h0 e];exact Aa i' h0 (by omega)
    .dsimp only at h0 ⊢;rw[aca k0 (by omega) (by omega) (by omega)];exact RR i' (by omega) h1
    .rcases ao.1 b with rfl|b
     .show decide (p<H.length)=true;exact decide_eq_true iL
     .exact hZ o b
   .rw[vL]at he;obtain⟨y,ub,Im⟩:=ak.1 he;cases Im;have S:=Jh lz gL (ae.1 ub).1 hi;have N:(iY q 0 (gN cm j))[t]? = some (lB y.1,oI (q t) y.2):=by rw[vL,ub];simp
    have e:(H++(Ob.row 157 0 [.ptr ck 0 0]::Ob.row 3 0 [.i i]::Ob.row 3 0 [.i m]::Ob.row 86 0 (AL.cl fS (qq cm m j k V seen))::(R++Ob.jj (.gH p) (gN cm j).length seen::Z))).set (H.length+(R.length+4)) (.jj (.gH p) (gN cm j).length (seen ++ [t]))=H++(Ob.row 157 0 [.ptr ck 0 0]::Ob.row 3 0 [.i i]::Ob.row 3 0 [.i m]::Ob.row 86 0 (AL.cl fS (qq cm m j k V seen))::(R++Ob.jj (.gH p) (gN cm j).length (seen ++ [t])::Z)):=by simp
    rw[e]
    have u0:(gN cm j).length-(seen ++ [t]).length<(gN cm j).length-seen.length:=by have:=S.2.2;rw[aj,aV]at this ⊢;omega
    have iG:=ab9 (cm:=cm) (m:=m) (j:=j) (seen:=seen) k0 (by omega:k<V.length)
    by_cases h1:(gN cm j).length=1
    .have SQ:t=0:=by have:=(ae.1 ub).1;omega
     have ti:seen = []:=aU.2 λu hu=>by have:=gL u hu;rw[show u=t by omega]at hu;exact hi hu
     have hy:y.1=nC (sd cm j):=XY (by
      obtain⟨z,hz⟩:=fL.1 h1;rw[hz,SQ]at ub;cases ub
      exact hz)
     subst ti;obtain⟨⟨O,L⟩,ls⟩:=y;dsimp only at hy N
     by_cases f:L<m
     .have hv:qq cm m j k V ([] ++ [t])=pt (pt V k (2,0)) k (O,L):=by unfold qq;rw[if_pos ⟨by simp,h1,by rw[<-hy];exact f⟩,hy]
      have Ci:=uP (l:=pt V k (2,0)) (n:=k) O L;simp[A,N,v,E,B,a.1,a.2,h1,f,Ci];(with_reducible repeat' first|refine Xk ?_<;>try simp[A,N,v,E,B,a.1,a.2,h1,f,Ci]|refine Xs ?_ ?_<;>intro h<;>(try intro h')<;>(try simp[h,A,N,v,E,B,a.1,a.2,h1,f,Ci])<;>try omega|refine Xg ?_|omega);rw[apz]at iG;refine⟨by rw[iG];omega,?_⟩;refine LJ.i ([] ++ [t],Z ++ [.row 86 0 [.i O,.i L]]) (by simp) (by rw[hv];simp[h1]) rfl rfl ?_;exact⟨u0,S.1,S.2.1,uw hZ λo b=>by rw[List.mem_singleton.1 b];rfl⟩
     .have hv:qq cm m j k V ([] ++ [t])=pt V k (2,0):=by unfold qq;rw[if_neg λh=>f (by have:=h.2.2;rw[<-hy]at this;exact this)]
      simp[A,N,v,E,B,a.1,a.2,h1,f];(with_reducible repeat' first|refine Xk ?_<;>try simp[A,N,v,E,B,a.1,a.2,h1,f]|refine Xs ?_ ?_<;>intro h<;>(try intro h')<;>(try simp[h,A,N,v,E,B,a.1,a.2,h1,f])<;>try omega|refine Xg ?_|omega);refine LJ.i ([] ++ [t],Z ++ [.row 86 0 [.i O,.i L]]) (by simp) (by rw[hv];simp[h1]) rfl rfl ?_;exact⟨u0,S.1,S.2.1,uw hZ λo b=>by rw[List.mem_singleton.1 b];rfl⟩
    .have hv:qq cm m j k V (seen ++ [t])=qq cm m j k V seen:=by unfold qq;rw[if_neg λh=>h1 h.2.1,if_neg λh=>h1 h.2.1]
     simp[A,N,v,E,B,a.1,a.2,h1];(with_reducible repeat' first|refine Xk ?_<;>try simp[A,N,v,E,B,a.1,a.2,h1]|refine Xs ?_ ?_<;>intro h<;>(try intro h')<;>(try simp[h,A,N,v,E,B,a.1,a.2,h1])<;>try omega|refine Xg ?_|omega);refine LJ.i (seen ++ [t],Z ++ [.row 86 0 [.i y.1.1,.i y.1.2]]) (by simp) (by simp[hv]) rfl rfl ?_;exact⟨u0,S.1,S.2.1,uw hZ λo b=>by rw[List.mem_singleton.1 b];rfl⟩
  have yv:k=x.length:=by omega
  have Ab:V=x.map (yf cm m):=by refine bt (by rw[List.length_map];exact hV) λj j0 j1=>?_;have h:=Aa j (by omega) (by omega);rw[iZ (by omega) (by omega),iZ (l:=x) (by omega) (by omega)]at h;rw[List.getElem_map];exact h
  rw[<-Ab]at F C
  have Hq:∀r∈V,0<=r.2/\r.2<=4000:=λr hr=>by
   rw[Ab]at hr;obtain⟨j,Y,rfl⟩:=List.mem_map.1 hr;have a:=gF j Y;unfold yf;split
   .have hf:=DU (hs j a.1 a.2);have h1:=hp j a.1 a.2 _ hf;have f:=hb j a.1 a.2 _ hf;refine⟨?_,f⟩;unfold lD at h1;simp only[decide_eq_true_eq]at h1;rcases h1 with e|e
    .rw[e];decide
    .exact e.2
   .exact⟨by decide,by decide⟩
  have a':=ae7 V (by omega) (by omega) Hq;obtain⟨r,hr⟩:∃r,nM V=r:=⟨_,rfl⟩;rw[hr]at a' F C;obtain⟨O,L⟩:=r;dsimp only at a' F C;simp[hk];refine gf ?_;refine Yr a' ?_ rfl rfl (by simp[hV]) (by simp[flat,tL]) (by simp)
  have hG:ju H.length (Ob.row 3 0 [.i m]::Ob.row 86 0 (AL.cl fS V)::(R ++ [Ob.row 86 0 [.i O,.i L]])):=λo b=>by
   rcases ao.1 b with rfl|b
   .rfl
   .rcases ao.1 b with rfl|b
    .exact yX _
    .rcases List.mem_append.1 b with b|b
     .exact hR o b
     .rw[List.mem_singleton.1 b];rfl
  by_cases f:O=2
  .subst f;have C:=C rfl;simp;refine gf ?_;refine gx.w (by simp;rfl) ?_;refine gx.kG rfl rfl (Q3 (H:=H++(.row 157 0 [.ptr ck 0 0] :: .row 3 0 [.i i] :: .row 3 0 [.i m] :: .row 86 0 (AL.cl fS V)::(R ++ [.row 86 0 [.i 2,.i L]]))) (J.app _) (pS _ hG) (iy X) qf h8 i0 I (Ho i i0 I) (w:=λr=>decide (r.1≠2/\r.2=m)) λr dst s K jO k'=>?_) ?_
   .have hb:=jO (H.length+2) (.row 3 0 [.i m]) (by simp);exact Yr (afj r m) k' rfl rfl (by simp[hb])
   .rintro _ H' ⟨rfl,rfl⟩;rw[N7 _ C];simp[AD gi]
  .have F:=F f;simp[f];refine jD f ?_;have Gp:=W9 (H:=H++(.row 157 0 [.ptr ck 0 0] :: .row 3 0 [.i i] :: .row 3 0 [.i m] :: .row 86 0 (AL.cl fS V)::(R ++ [.row 86 0 [.i O,.i L]]))) (J.app _) (pS _ hG) (iy X) qf h8 i0 I (Ho i i0 I) (t2:=H.length) (t3:=H.length+1) (by simp) (by simp) (O,L);rw[N7 _ F]at Gp;refine gx.w (by simp;rfl) ?_;refine gx.kG rfl rfl Gp ?_;rintro _ H' ⟨rfl,rfl⟩;simp[AD gi]
 .have wj:=wj rfl;have Gp:=W9 (H:=H ++ [.row 157 0 [.ptr ck 0 0],.row 3 0 [.i i]]) (J.app _) (pS [] λ_ h=>by cases h) (iy X) qf h8 i0 I (Ho i i0 I) (t2:=H.length) (t3:=H.length+1) (by simp) (by simp) (o,0);rw[N7 _ wj]at Gp;simp;refine gf ?_;refine gx.w (by simp;rfl) ?_;refine gx.kG rfl rfl Gp ?_;rintro _ H' ⟨rfl,rfl⟩;simp[AD gi]
end
end Go.Proofs.YtmehofoficaelaaGreatDoor
namespace Go.Proofs.YtmehofoficaelaaGreatDoor
open Go Go.AL Classical
set_option maxRecDepth 10000
set_option maxHeartbeats 16000000
attribute [-simp] tH
section
variable{H:U}{ck sr n:Nat}{M:Nat->kd}{ow:Nat->Nat×Nat×Nat}{P:Nat->Nat}{Q:Nat->Nat->Nat}
theorem ae0{p:Nat}{kk:KK}{es:List (Value×D)}(a:H[p]? = some (.map kk es)):Wf T 118 [.gH p] H (λd H'=>d = .b (decide (es.length=0))/\H'=H):=by refine Yg Ka ?_;simp[Ka,a]
theorem afh(i:mn H ck sr n M ow P Q)(o:n<=1000):Wf T 185 [.fZ sr 0 1 0 n,.fn (.func 118) [] []] H (λd H'=>∃v:Int,d = .i v/\H'=H/\(0<=v↔∃j,j<n/\(M j).length=0)):=by
 have k:=i.row;refine Yg Ko ?_;simp[Ko];refine gp.e (0:Int) (λy=>[(0,.fZ sr 0 1 0 n),(1,.fn (.func 118) [] []),(7,.i n),(8,.i y)]) (λy=>H) (λy=>(0<=y/\y<=n)/\∀j,j<y.toNat->(M j).length≠0) (λy=>(n-y).toNat) ?_ ?_
 .exact⟨by simp,λj c=>absurd c (by simp)⟩
 rintro y ⟨⟨g,l⟩,f⟩;dsimp only at g l f ⊢
 by_cases b:y<n
 .obtain⟨m,_⟩:=i.mp y.toNat (by omega);have a:y.toNat<n:=by omega
  simp[b,k,a];refine qy b k a ?_;refine gx.kG rfl rfl (ae0 (H:=H) m) ?_;rintro _ H' ⟨rfl,rfl⟩;rw[Br]
  by_cases h0:(M y.toNat).length=0
  .rw[decide_eq_true h0];simp;refine gf ?_;exact⟨λ_=>⟨y.toNat,a,ax.1 h0⟩,λ_=>g⟩
  .rw[decide_eq_false h0];simp;refine gf ?_;refine LJ.i (y+1) (by simp) rfl rfl rfl ⟨by omega,iE,λj c=>?_⟩
   by_cases e:j=y.toNat
   .rw[e];exact h0
   .exact f j (by omega)
 .simp[b];refine gf ?_;exactλj c h=>f j (by omega) (by rw[h];rfl)
theorem aeZ(a:mn H ck sr n M ow P Q)(c:n<=1000):Wf T 117 [.fZ sr 0 1 0 n,.fn (.func 118) [] []] H (λd H'=>d = .b (decide (∃j,j<n/\(M j).length=0))/\H'=H):=by refine Yg J' ?_;simp[J'];refine gx.kG rfl rfl (afh a c) ?_;rintro _ H' ⟨v,rfl,rfl,b⟩;simp;simpa using b
theorem mn.aoF(h:mn H ck sr n M ow P Q){v:Nat}(f:ow v=(5,0,0))(o:Ob):mn (H.set v o) ck sr n M ow P Q:=by
 have key:∀(w:Nat) (x:Ob),H[w]? = some x->ow w≠(5,0,0)->(H.set v o)[w]? = some x:=λw x d g=>by rw[ay (λe=>g (by rw[<-e];exact f))];exact d
 refine⟨h.fc,h.fs,key _ _ h.row (by rw[h.fs];simp),λj b=>?_,λj b t x c=>?_⟩
 .obtain⟨h1,a⟩:=h.mp j b;exact⟨key _ _ h1 (by rw[a];simp),a⟩
 .obtain⟨h1,a⟩:=h.ls j b t x c;exact⟨key _ _ h1 (by rw[a];simp),a⟩
end
@[simp] theorem asu(cl:List gK):lq cl 0 = -1:=rfl
theorem acU(cl:List gK){y:Int}(a:0<=y):lq cl (y+1).toNat=Gg cl (lq cl y.toNat) y:=by rw[show(y+1).toNat=y.toNat+1 by omega];unfold lq;rw[Fy,List.foldl_append,show((y.toNat:Nat):Int)=y by omega];rfl
def LiV(N:Nat)(H:U)(ls:List Int)(d:D):Prop:=d=dN 1 f1 ls\/(ls≠[]/\∃v g,d = .fZ v g 1 0 ls.length/\H[v]? = some (.row 3 g (cl f1 ls))/\N<=v)
def VD(N:Nat)(H:U)(d:D):Jd->Prop
 | .v a ls=>∃x,d = .tup [.agg [.i a,x],.i 0]/\LiV N H ls x
 | .none=>d = .tup [.agg [.i 0,.gg],.i 270]
 | .Bj=>d = .tup [.agg [.i 0,.gg],.i 180]
structure JP(g:gj)(l:List Pos)(nx:List (List Int))(dcl:D)(cm:List gK)(H H':U)(ck:Nat)(J:Jd)(d:D):Prop where
 vd:VD H.length H' d J
 ok:ju H'.length H'
 kp:∀v o,H[v]? = some o->v≠ck->H'[v]? = some o
 ct:∃sr,H'[ck]? = some (.row 168 0 (kn g l nx dcl (.fZ sr 0 1 0 l.length)))/\(J = .none->∃ow P Q,mn H' ck sr l.length (λj:Nat=>gN cm (j:Int)) ow P Q/\∀v o,H[v]? = some o->v≠ck->ow v=(5,0,0))
def aeO(g:gj)(hg:gU g)(l:List Pos)(A:ox g l)(h0:0<l.length)(h9:l.length<=1000){H:U}{ck:Nat}{L:List Cw}{old dcl:D}(hd:CV H ck L dcl)(gi:ju H.length H)
  (mf:H[ck]? = some (.row 168 0 (kn g l (gw g l) dcl old))) (hL:∀x∈L,x.ok) (hb:∀x∈L,∀r∈x.c.es,r.2<=4000) (h8:L.length<=100000) :
  Wf T 64 [.ptr ck 0 0] H (λd H'=>JP g l (gw g l) dcl (cs L) H H' ck (ni (ji g l (gw g l)) l.length (jm l.length) (cs L)) d):=by
 have Ad:=vI L;have Hj:=@ahC (ji g l (gw g l)) l.length (jm l.length) (cs L);have S:=@ahF (ji g l (gw g l)) l.length (jm l.length) (cs L);have C:=@ahG (ji g l (gw g l)) l.length (jm l.length) (cs L);have f:=@ahD (ji g l (gw g l)) l.length (jm l.length) (cs L);obtain⟨J,hJ⟩:∃J,ni (ji g l (gw g l)) l.length (jm l.length) (cs L)=J:=⟨_,rfl⟩;rw[hJ]at Hj S C f ⊢;rw[Ad]at Hj S C f;have yA:ju (H ++ [Ob.row 89 0 [.i 0,.gg]]).length (H ++ [Ob.row 89 0 [.i 0,.gg]]):=IW gi rfl λo ho=>by rw[List.mem_singleton.1 ho];rfl
 have YC:=js mf;refine Yg J0 ?_;simp[J0];refine gx.kG rfl rfl (aeY (H:=H ++ [.row 89 0 [.i 0,.gg]]) (hd.app _) yA (iy mf) hL h8 h9 h0) ?_;rintro d H1 ⟨ow,P,Q,q⟩;obtain⟨m,h5⟩:=q.kp H.length (.row 89 0 [.i 0,.gg]) (by simp) (by omega);obtain⟨bad,BT⟩:∃bad,kc (λc => !jm l.length c) (cs L) L.length=bad:=⟨_,rfl⟩;rw[BT]at q Hj S C f;have O:=q.ct
 have R:H1[ck]? = some (.row 168 0 [.i g.size,.sl 1 (g.next.map fI),dI g.jw,.sl 3 (g.kinds.map Kind.cells),.i g.gM,.b g.oH,dN 4 Clause.cells g.clauses,.i g.blocked,.i g.vJ,gZ l,.sl 1 ((gw g l).map fN),dcl,.fZ (H ++ [Ob.row 89 0 [.i 0,.gg]]).length 0 1 0 l.length]):=by rw[O];unfold kn;simp
 obtain⟨sr,c'⟩:∃sr,(H ++ [Ob.row 89 0 [.i 0,.gg]]).length=sr:=⟨_,rfl⟩;rw[c']at q O R;have qj:∀v o,H[v]? = some o->v≠ck->H1[v]? = some o:=λv o M A=>(q.kp v o (iy M) A).1
 have Z:∀(x:Ob),nj H1.length x=true->ju (H1.set H.length x).length (H1.set H.length x)/\(∀v o,H[v]? = some o->v≠ck->(H1.set H.length x)[v]? = some o)/\(H1.set H.length x)[ck]? = some (.row 168 0 (kn g l (gw g l) dcl (.fZ sr 0 1 0 l.length))):=λx b5=>by
  refine⟨by rw[ar];exact pZ q.ok b5,λv o M A=>?_,?_⟩
  .rw[ay (by have:=js M;omega)];exact qj v o M A
  .rw[ay (by omega)];exact O
 rcases q.bd with⟨tQ,rfl⟩|⟨BS,v,gn,rfl,pj,vP⟩
 .have BQ:∀x∈L,jm l.length x.c=true:=λx G=>by
   have b:=BT;rw[tQ,<-Ad,wA]at b
   cases e:jm l.length x.c with
   | true=>rfl
   | false=>exact absurd b (yK.2 ⟨x.c,List.mem_map.2 ⟨x,G,rfl⟩,by simp[e]⟩)
  have c5:hM (jm l.length) (cs L) L.length=λj:Nat=>gN (cs L) (j:Int):=funext λj=>by
   rw[<-Ad]
   exact agr (λc A=>by
    obtain⟨x,G,rfl⟩:=List.mem_map.1 A
    exact BQ x G) j
  have E:=q.sg;rw[c5]at E;have c7:=aeZ E h9;have qf:(kn g l (gw g l) dcl (.fZ sr 0 1 0 l.length))[12]? = some (.fZ sr 0 1 0 l.length):=by unfold kn;simp
  have RL:∀x∈L,x.full:=λx G=>⟨hL x G,λ_=>by
   have:=BQ x G;unfold jm at this;rw[Bool.and_eq_true]at this
   exact(Jq this.1).2.2⟩
  have c0:∀j:Int,0<=j->j<l.length->∀r∈sd (cs L) j,r.2<=4000:=λj _ _ r hr=>by obtain⟨c,A,h1,rfl⟩:=sK.1 hr;obtain⟨x,G,rfl⟩:=List.mem_map.1 A;obtain⟨_,j0,j1⟩:=Cw.XM (RL x G) h1;exact hb x G _ (gA (by omega) j1)
  have S:=@S tQ;have C:=@C tQ;have f:=f tQ;have Y:∀j:Int,0<=j->gN (cs L) ((j.toNat:Nat):Int)=gN (cs L) j:=λj j0=>by rw[show((j.toNat:Nat):Int)=j by omega]
  have t:∀o,(H1.set H.length o)[H.length]? = some o:=λo=>aH (js m);simp[R];refine jD R ?_;refine gx.kG rfl rfl c7 ?_;rintro _ H' ⟨rfl,rfl⟩
  by_cases he:∃j,j<l.length/\(gN (cs L) ((j:Nat):Int)).length=0
  .rw[decide_eq_true he];obtain⟨j,hj,rW⟩:=he;have V:=@S (j:Int) (by omega) (by omega) (NT.1 rW);subst V;simp[m,t];refine kJ m t ?_;obtain⟨f1,f2,f3⟩:=Z (.row 89 0 [.i 0,.gg]) rfl;exact⟨rfl,f1,f2,sr,f3,λh=>by cases h⟩
  .rw[decide_eq_false he];have hs:∀j:Int,0<=j->j<l.length->sd (cs L) j≠[]:=λj j0 j1 h=>he ⟨j.toNat,by omega,by rw[Y j j0];exact NT.2 h⟩;have C:=@C hs;have f:=f hs;have X8:(cs L).length<=100000:=by rw[Ad];exact h8
   clear he Hj S;simp[R];refine jD R ?_;refine gp.e (0:Int) (λy=>[(0,.ptr ck 0 0),(2,.ptr H.length 0 0),(27,.i l.length),(28,.i y)]) (λy=>H') (λy=>(0<=y/\y<=l.length)/\∀j:Int,0<=j->j<y->imp (cs L) j = []) (λy=>(l.length-y).toNat) ?_ ?_
   .exact⟨by simp,λj j0 j1=>by omega⟩
   rintro y ⟨⟨z,y1⟩,X⟩;dsimp only at z y1 X ⊢
   by_cases p:y<l.length
   .have DM:=Q3 (H:=H') E q.ok O qf X8 z (by omega) (Y y z) (w:=λr => !lD r) λr dst s K _ k=>Yc (ae1 r) k;obtain⟨I,W⟩:∃I,imp (cs L) y=I:=⟨_,rfl⟩;have c6:kc (λc=>kA c y && !lD (kD c y)) (cs L) (cs L).length=I:=W;rw[c6]at DM;simp[p];refine gf ?_;refine gx.kG rfl rfl DM ?_;rintro _ H2 ⟨rfl,rfl⟩
    by_cases hz:I = []
    .have qz:∀j:Int,0<=j->j<y+1->imp (cs L) j = []:=λj j0 j1=>by
      by_cases e:j=y
      .rw[e,W,hz]
      .exact X j j0 (by omega)
     subst hz;simp;refine gf ?_;refine LJ.i (y+1) (by simp) rfl rfl rfl ⟨by omega,iE,qz⟩
    .have V:=C z p (by rw[W];exact hz) X;rw[W]at V;subst V;have kj:0<I.length:=aw.2 hz;simp[m,t,kj];refine qy m t kj ?_;obtain⟨f1,f2,f3⟩:=Z (.row 89 0 [.i y,dN 1 f1 I]) (by simp);exact⟨⟨_,rfl,.inl rfl⟩,f1,f2,sr,f3,λh=>by cases h⟩
   have yG:y=l.length:=by omega
   subst yG;have hp:∀j:Int,0<=j->j<l.length->∀r∈sd (cs L) j,lD r=true:=λj j0 j1=>imp_nil (X j j0 j1);have f:=f X;clear C X z y1 p;simp[R];refine jD R ?_;have N:=E.row;refine gp.e (0:Int) (λy=>[(0,.ptr ck 0 0),(2,.ptr H.length 0 0),(7,.i (lq (cs L) y.toNat)),(44,.fZ sr 0 1 0 l.length),(45,.i l.length),(46,.i y)]) (λy=>H') (λy=>0<=y/\y<=l.length) (λy=>(l.length-y).toNat) ?_ ?_
   .simp
   rintro y ⟨z,y1⟩;dsimp only at z y1 ⊢
   by_cases p:y<l.length
   .have B:y.toNat<l.length:=by omega
    have F:H'[P y.toNat]? = some (.map KS (iY (Q y.toNat) 0 (gN (cs L) y))):=by have:=(E.mp y.toNat B).1;rw[Y y z]at this;exact this
    have hS:=acU (cs L) z
    have gF:0<=lq (cs L) y.toNat->lq (cs L) y.toNat<l.length:=λh=>by have:=(VH (n:=y.toNat) h).1;omega
    obtain⟨a,ha⟩:∃a,lq (cs L) y.toNat=a:=⟨_,rfl⟩;rw[ha]at hS gF ⊢;unfold Gg at hS
    by_cases h1:1<(gN (cs L) y).length
    .have YI:=G7.1 h1
     by_cases b:a<0
     .rw[if_pos ⟨YI,.inl b⟩]at hS;simp[p,N,B,F,h1,b];(with_reducible repeat' first|refine Xk ?_<;>try simp[p,N,B,F,h1,b]|refine Xs ?_ ?_<;>intro h<;>(try intro h')<;>(try simp[h,p,N,B,F,h1,b])<;>try omega|refine Xg ?_|omega);refine LJ.i (y+1) (by simp[hS]) rfl rfl rfl mj
     .have V2:=Q4 (H:=H') E q.ok O qf z (by omega) (Y y z) (hp y z p);have V4:=Q4 (H:=H') E q.ok O qf (by omega:0<=a) (by have:=gF (by omega);omega) (Y a (by omega)) (hp a (by omega) (gF (by omega)));obtain⟨u,hu⟩:∃u,mh (sd (cs L) y)=u:=⟨_,rfl⟩;obtain⟨v,M⟩:∃v,mh (sd (cs L) a)=v:=⟨_,rfl⟩;rw[hu]at V2;rw[M]at V4;rw[hu,M]at hS;simp[p,N,B,F,h1,b];(with_reducible repeat' first|refine Xk ?_<;>try simp[p,N,B,F,h1,b]|refine Xs ?_ ?_<;>intro h<;>(try intro h')<;>(try simp[h,p,N,B,F,h1,b])<;>try omega|refine Xg ?_|omega);refine gx.kG rfl rfl V2 ?_;rintro _ H2 ⟨rfl,rfl⟩;simp;refine gx.kG rfl rfl V4 ?_;rintro _ H2 ⟨rfl,rfl⟩
      by_cases h3:u<v
      .rw[if_pos ⟨YI,.inr h3⟩]at hS;simp[h3];refine jD h3 ?_;refine LJ.i (y+1) (by simp[hS]) rfl rfl rfl mj
      .rw[if_neg (λh=>by rcases h.2 with h|h<;>omega)]at hS;simp[h3];refine jD h3 ?_;refine LJ.i (y+1) (by simp[hS]) rfl rfl rfl mj
    .rw[if_neg (λh=>h1 (G7.2 h.1))]at hS;simp[p,N,B,F,h1];(with_reducible repeat' first|refine Xk ?_<;>try simp[p,N,B,F,h1]|refine Xs ?_ ?_<;>intro h<;>(try intro h')<;>(try simp[h,p,N,B,F,h1])<;>try omega|refine Xg ?_|omega);refine LJ.i (y+1) (by simp[hS]) rfl rfl rfl mj
   have yG:y=l.length:=by omega
   subst yG;rw[bB];have hD:=@VH (cs L) l.length;have Gn:=λi=>ae3 g hg l A rfl E q.ok O X8 (i:=i);obtain⟨a,ha⟩:∃a,lq (cs L) l.length=a:=⟨_,rfl⟩;rw[ha]at f hD ⊢
   by_cases b:a<0
   .rw[if_pos b]at f;subst f;simp[b,m,t];refine qy b m t ?_;obtain⟨f1,f2,f3⟩:=Z (.row 89 0 [.i 0,.gg]) rfl;exact⟨rfl,f1,f2,sr,f3,λ_=>⟨ow,P,Q,E.aoF h5 _,λv o M A=>(q.kp v o (iy M) A).2⟩⟩
   .rw[if_neg b]at f;have hD:=hD (by omega);have Gn:=Gn a (by omega) hD.1 (λj hj=>rfl) hp c0 hs;rw[Ad]at Gn;obtain⟨I,W⟩:∃I,kc (rE (ji g l (gw g l)) (cs L) a) (cs L) L.length=I:=⟨_,rfl⟩;rw[W]at Gn f;subst f;simp[b,m,t];refine qy b m t ?_;refine gx.kG rfl rfl Gn ?_;rintro _ H2 ⟨rfl,rfl⟩;simp[m,t];refine kJ m t ?_;obtain⟨f1,f2,f3⟩:=Z (.row 89 0 [.i a,dN 1 f1 I]) (by simp);exact⟨⟨_,rfl,.inl rfl⟩,f1,f2,sr,f3,λh=>by cases h⟩
 .have kj:0<bad.length:=aw.2 BS;have t:∀o,(H1.set H.length o)[H.length]? = some o:=λo=>aH (js m);have V:=Hj BS;subst V;have iG:=js pj;obtain⟨f1,f2,f3⟩:=Z (.row 89 0 [.i (-1),.fZ v gn 1 0 bad.length]) (by simp[iG]);simp[m,t];refine kJ m t ?_
  have c4:H.length<=v:=by
   refine fr λgL=>?_
   by_cases e:v=ck
   .rw[e,O]at pj;simp at pj
   .have:=(q.kp v _ (iy (List.getElem?_eq_getElem gL)) e).2;rw[vP]at this;simp at this
  exact⟨⟨_,rfl,.inr ⟨BS,v,gn,rfl,by rw[ay (λe=>by rw[<-e,h5]at vP;simp at vP)];exact pj,c4⟩⟩,f1,f2,sr,f3,λh=>by cases h⟩
end Go.Proofs.YtmehofoficaelaaGreatDoor
namespace Go.Proofs.YtmehofoficaelaaGreatDoor
open Go Go.AL Classical
set_option maxRecDepth 10000
set_option maxHeartbeats 16000000
attribute [-simp] tH
end Go.Proofs.YtmehofoficaelaaGreatDoor
namespace Go.Proofs.YtmehofoficaelaaGreatDoor
open Go Go.AL Classical
def eS:Env:=[(11,.ptr 2 0 0),(12,.ptr 4 0 0)]
def tI(l:List Int)(k:Int):List Int:=l.take k.toNat++l.drop (k.toNat+1)
def aeg{l:List Int}{k:Int}(k0:0<=k)(k1:k<l.length):(tI l k).length=l.length-1:=by unfold tI;rw[aj,aJ,aQ];omega
structure LS(H0 H:U)(q rv:Nat)(st:qv)(left gX:List Int)(ld:D):Prop where
 nv:H[2]? = some (.row 37 0 [ld])
 vw:(gX = []/\ld = .gg)\/(gX≠[]/\∃v g,(4<v/\(v=q\/H0.length<=v))/\ld = .fZ v g 1 0 gX.length/\H[v]? = some (.row 3 g (cl f1 gX)))
 arr:∃zs,gG zs=true/\H[3]? = some (.row 3 0 (cl f1 left++zs))
 ny:H[4]? = some (.row 37 0 [.fZ 3 0 1 0 left.length])
 ok:ju H.length H
 CY:4<rv
 rc:H[rv]? = some (.im 1280 eS st)
 kp:∀w o,H0[w]? = some o->(4<w\/w<=1)->w≠rv->w≠q->H[w]? = some o
 le:H0.length<=H.length
section
variable{H0 H:U}{q rv:Nat}{st:qv}{left gX:List Int}{ld:D}
theorem LS.len(h:LS H0 H q rv st left gX ld):4<H.length:=js h.ny
theorem LS.Um(h:LS H0 H q rv st left gX ld)(st':qv):LS H0 (H.set rv (.im 1280 eS st')) q rv st' left gX ld:=by
 have key:∀ {w:Nat} {o:Ob},H[w]? = some o->w≠rv->(H.set rv (.im 1280 eS st'))[w]? = some o:=λf j=>by rw[ay (cA j)];exact f
 have i:=h.CY;refine⟨key h.nv (by omega),?_,?_,key h.ny (by omega),?_,i,aH (js h.rc),λw o h1 c b a=>key (h.kp w o h1 c b a) b,by rw[ar];exact h.le⟩
 .rcases h.vw with h1|⟨h1,v,g,c,b,a⟩
  .exact .inl h1
  .exact .inr ⟨h1,v,g,c,b,key a λe=>by rw[e,h.rc]at a;cases a⟩
 .obtain⟨zs,d,h1⟩:=h.arr;exact⟨zs,d,key h1 (by omega)⟩
 .rw[ar];refine pZ h.ok ?_;have:=h.len;show((jv H.length (.ptr 2 0 0))&&((jv H.length (.ptr 4 0 0))&&true))=true;simp;omega
theorem LS.more(h:LS H0 H q rv st left gX ld){o:Ob}(f:nj (H.length+1) o=true):LS H0 (H ++ [o]) q rv st left gX ld:=by
 refine⟨iy h.nv,?_,?_,iy h.ny,?_,h.CY,iy h.rc,λw o h1 c b a=>iy (h.kp w o h1 c b a),by rw[aj];have:=h.le;omega⟩
 .rcases h.vw with h1|⟨h1,v,g,c,b,a⟩
  .exact .inl h1
  .grind
 .obtain⟨zs,d,h1⟩:=h.arr;exact⟨zs,d,iy h1⟩
 .rw[aj,aV];refine uw (xG (by omega) h.ok) λx e=>?_;rw[List.mem_singleton.1 e];exact f
theorem LS.anC(h:LS H0 H q rv st left [] .gg)(x:Int):LS H0 ((H.set 2 (.row 37 0 [.fZ H.length 0 1 0 1])) ++ [.row 3 0 (cl f1 [x])]) q rv st left [x] (.fZ H.length 0 1 0 1):=by
 have hl:=h.len;have b:=h.CY;have key:∀ {w:Nat} {o:Ob},H[w]? = some o->w≠2->((H.set 2 (.row 37 0 [.fZ H.length 0 1 0 1])) ++ [.row 3 0 (cl f1 [x])])[w]? = some o:=λg i=>by grind
 refine⟨?_,.inr ⟨by simp,H.length,0,⟨hl,.inr h.le⟩,rfl,?_⟩,?_,key h.ny (by omega),?_,b,key h.rc (by omega),λw o h1 e d c=>key (h.kp w o h1 e d c) (by omega),by rw[aj,ar];have:=h.le;omega⟩
 .grind
 .grind
 .obtain⟨zs,a,h1⟩:=h.arr;exact⟨zs,a,key h1 (by omega)⟩
 .rw[aj,ar,aV];refine uw (pZ (xG (by omega) h.ok) ?_) λy f=>?_
  .simp_all
  .simp_all
theorem LS.anD{v g:Nat}(a:v=q\/H0.length<=v)(h:LS H0 H q rv st left gX (.fZ v g 1 0 gX.length))(hl:gX≠[])(d:4<v)(b:H[v]? = some (.row 3 g (cl f1 gX)))(x:Int) :
  LS H0 ((H.set v (.row 3 (g+1) (cl f1 (gX ++ [x])))).set 2 (.row 37 0 [.fZ v (g+1) 1 0 (gX.length+1)])) q rv st left (gX ++ [x]) (.fZ v (g+1) 1 0 (gX.length+1)):=by
 have j:=h.CY;have f:=js b;have c:rv≠v:=λe=>by rw[<-e,h.rc]at b;cases b
 have key:∀ {w:Nat} {o:Ob},H[w]? = some o->w≠2->w≠v->((H.set v (.row 3 (g+1) (cl f1 (gX ++ [x])))).set 2 (.row 37 0 [.fZ v (g+1) 1 0 (gX.length+1)]))[w]? = some o:=λn p r=>by grind
 refine⟨aH (by rw[ar];have:=h.len;omega),.inr ⟨by simp,v,g+1,⟨d,a⟩,by simp,?_⟩,?_,key h.ny (by omega) (by omega),?_,j,key h.rc (by omega) c,λw o h1 m l k=>key (h.kp w o h1 m l k) (by omega) λe=>?_,by rw[ar,ar];exact h.le⟩
 .grind
 .obtain⟨zs,i,h1⟩:=h.arr;exact⟨zs,i,key h1 (by omega) (by omega)⟩
 .rw[ar,ar];refine pZ (pZ h.ok (yX _)) ?_;show((jv H.length (.fZ v (g+1) 1 0 (gX.length+1)))&&true)=true;simp[f]
 .rcases a with a|a
  .omega
  .have:=js h1;omega
theorem LS.del(h:LS H0 H q rv st left gX ld){zs:List D}(b:gG zs=true)(m:H[3]? = some (.row 3 0 (cl f1 left++zs))){k:Int}(k0:0<=k)(k1:k<left.length) :
  LS H0 ((H.set 3 (.row 3 0 (cl f1 (tI left k) ++ .i 0::zs))).set 4 (.row 37 0 [.fZ 3 0 1 0 (left.length-1)])) q rv st (tI left k) gX ld:=by
 have i:=h.CY;have hl:=h.len;have key:∀ {w:Nat} {o:Ob},H[w]? = some o->w≠3->w≠4->((H.set 3 (.row 3 0 (cl f1 (tI left k) ++ .i 0::zs))).set 4 (.row 37 0 [.fZ 3 0 1 0 (left.length-1)]))[w]? = some o:=λj l n=>by grind
 refine⟨key h.nv (by omega) (by omega),?_,⟨.i 0::zs,by simpa[gG]using b,?_⟩,?_,?_,i,key h.rc (by omega) (by omega),λw o h1 f e c=>key (h.kp w o h1 f e c) (by omega) (by omega),by rw[ar,ar];exact h.le⟩
 .rcases h.vw with h1|⟨h1,v,g,f,e,c⟩
  .exact .inl h1
  .grind
 .grind
 .rw[aH (by rw[ar];omega),aeg k0 k1]
 .rw[ar,ar];refine pZ (pZ h.ok ?_) ?_
  .refine List.all_eq_true.2 λd a=>?_;rcases List.mem_append.1 a with a|a
   .exact AZ (lT (tG _) d a)
   .rcases ao.1 a with rfl|a
    .rfl
    .exact AZ (lT b d a)
  .show((jv H.length (.fZ 3 0 1 0 (left.length-1)))&&true)=true;simp;omega
