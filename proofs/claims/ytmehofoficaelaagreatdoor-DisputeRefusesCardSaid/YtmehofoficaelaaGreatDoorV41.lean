/- 41 -/
import Derived.Test.YtmehofoficaelaaGreatDoorV40
set_option linter.all false
open And renaming intro→aE
open Option renaming some→bb
open List renaming mem_singleton→bs,length_map→b4,replicate→cc,mem_of_getElem?→cp,getElem?_eq_getElem→di,all_eq_true→dr,getElem_map→eh,range→ep,length→List.l
open Bool renaming true→dx,false→ek,not_false→en
open Int renaming toNat→Int.n
namespace Go.Proofs.YtmehofoficaelaaGreatDoor
open Go Go.AL Classical
set_option maxRecDepth 10000
set_option maxHeartbeats 16000000
attribute [-simp] uK
def kq(g:gq)(l:List Pos)(nx:List (List Int))(dcl sd:D):List D:=g.cells ++ [gP l,.sl 1 (nx.map fN),dcl,sd]
def sP{H:gd}{v:Nat}{o:Ob}(h:H[v]? = bb o):H.set v o=H:=by obtain⟨h1,a⟩:=ae.1 h;rw[<-a,eA]
def afr{p:gV->Bool}{s:gV->gg}{cl:List gV}{n t:Nat}{r:gg}{x:List Int}(h:oj r (px p s cl n)=bb (t,x)):x.l<=n:=by obtain⟨h1,_⟩:=zJ (k:=0) h;rw[(QG (cp h1)).1];exact Ax _ _ ((EK _ _ _).imp λh e=>U) λk a=>(An.1 a).1
def afs{p:gV->Bool}{s:gV->gg}{cl:List gV}{n t:Nat}{r:gg}{x:List Int}(h:oj r (px p s cl n)=bb (t,x)):x≠[]:=by obtain⟨h1,_⟩:=zJ (k:=0) h;exact(QG (cp h1)).2
def QJ{L:List Cw}{k:Int}(k0:0<=k)(a:k<L.l):gt (cs L) k=(gt L k).c:=by unfold cs;rw[iX k0 (by rw[b4];exact a),iX k0 a,eh]
def Az{n t g:Nat}{cs:List D}(h:gK cs=dx):nG n (.row t g cs)=true:=dr.2 λd a=>CJ (lP h d a)
def CV(H:gd)(ck:Nat)(L:List Cw)(dcl:D):Prop:=
 dcl = .sl 36 (L.map iI)\/(L = []/\dcl = .gi)\/∃v g,v≠ck/\dcl = .gf v g 36 0 L.l/\H[v]? = bb (.row 72 g (cl iI L))
def CV.len{H:gd}{ck:Nat}{L:List Cw}{dcl:D}(h:CV H ck L dcl)(H':gd):mY .slice dcl H'=bb (.i L.l):=by
 rcases h with rfl|⟨rfl,rfl⟩|⟨v,g,_,rfl,_⟩
 .simp
 .rfl
 .simp
def CV.ix{H:gd}{ck:Nat}{L:List Cw}{dcl:D}(h:CV H ck L dcl){k:Int}(k0:0<=k)(a:k<L.l) :
  ∃p,mC 36 dcl (.i k)=bb p/\∀H':gd,(∀(v:Nat) (o:Ob),H[v]? = bb o->v≠ck->H'[v]? = bb o)->wi 36 p H'=bb (.agg ((iI (gt L k)).take 36)):=by
 have b:(iI (gt L k)).l=36:=Fl.len _;rcases h with rfl|⟨rfl,rfl⟩|⟨v,g,hc,rfl,hv⟩
 .refine⟨.gC (iI (gt L k)),?_,λH' _=>?_⟩
  .unfold mC;dsimp only;rw[if_pos ⟨rfl,k0,by rw[b4];exact a⟩,iX k0 a];simp[List.getD,di (U:k.n<L.l)]
  .simp[b]
 .grind
 .simp_all
def CV.app{H:gd}{ck:Nat}{L:List Cw}{dcl:D}(h:CV H ck L dcl)(G:gd):CV (H++G) ck L dcl:=by
 rcases h with h|h|⟨v,g,b,e,a⟩
 .exact .inl h
 .exact .inr (.inl h)
 .exact .inr (.inr ⟨v,g,b,e,iD a⟩)
def aed{H:gd}{ck:Nat}{g:gq}{l:List Pos}{nx:List (List Int)}{L:List Cw}{old dcl:D}(hd:CV H ck L dcl)(gp:jz H.l H)(G:H[ck]? = bb (.row 168 0 (kq g l nx dcl old)))(hL:∀x∈L,x.ok)(h8:L.l<=100000)(h9:l.l<=1000)(h0:0<l.l) :
  Wf T 116 [.ptr ck 0 0] H (λd H'=>∃ow P Q,HI H H' ck H.l l.l (.row 168 0 (kq g l nx dcl (.gf H.l 0 1 0 l.l))) (hM (jr l.l) (cs L) L.l) (km (λc => !jr l.l c) (cs L) L.l) d none ow P Q):=by
 have sB:=jw G;have uQ:=hd.len;have jy:jG (H.l+1) dcl=true:=E' U (dr.1 (gp _ (cp G)) dcl (by unfold kq;simp));have hG:GH H ck:=⟨sB,gp⟩;have nV:∀R o,(H++R).set ck o=H.set ck o++R:=λR o=>aP _ _ sB;have tL:∀R:gd,(H++R)[ck]? = bb (.row 168 0 (kq g l nx dcl old)):=λR=>iD G;have hz:=anq H.l l.l;obtain⟨C,hC⟩:∃C,Ob.row 168 0 (kq g l nx dcl (.gf H.l 0 1 0 l.l))=C:=⟨_,rfl⟩
 have e5:nG (H.l+1) C=true:=by rw[<-hC];unfold kq;simp[jy]
 have gA:=HI.start (n:=l.l) gp G e5;rw[hC];have G0:C = .row 168 0 (g.cells ++ [gP l,.sl 1 (nx.map fN),dcl,.gf H.l 0 1 0 l.l]):=hC.symm;have DS:∀sd,(Ob.row 168 0 [.i g.size,.sl 1 (g.next.map fI),dI g.jD,.sl 3 (g.kinds.map Kind.cells),.i g.gO,.b g.oQ,dN 4 Clause.cells g.clauses,.i g.blocked,.i g.vo,gP l,.sl 1 (nx.map fN),dcl,sd]) = .row 168 0 (kq g l nx dcl sd):=λsd=>by unfold kq;simp
 have Z:∀(o:Ob) (R:gd),(H.set ck o++R)[ck]? = bb o:=λo R=>hG.iD;have Rt:∀(o:Ob) (R:gd),(H.set ck o++R)[H.l]? = R[0]? := λo R=>hG.afp;have rZ:∀(o o':Ob) (R:gd),(H.set ck o++R).set H.l o'=H.set ck o++R.set 0 o':=λo o' R=>hG.anH;refine Yg JM ?_;simp[JM,G,tL,nV,kq,<-hz,Z];(with_reducible repeat' first|refine Xk ?_<;>try simp[G,tL,nV,kq,<-hz,Z]|refine Xs ?_ ?_<;>intro h<;>(try intro h')<;>(try simp[h,G,tL,nV,kq,<-hz,Z])<;>try omega|refine Xg ?_|omega);refine gx.s (by simp[tL,nV,kq];rfl) ?_;rw[DS,hC];refine gx.e (0:Int) (λy=>[(0,.ptr ck 0 0),(3,.gi),(23,.i l.l),(24,.i y)]) (λy=>H.set ck C++(.row 170 0 (pH H.l l.l y.n)::cc y.n (.map KS []))) (λy=>0<=y/\y<=l.l) (λy=>(l.l-y).n) ?_ ?_
 .simp
 rintro y ⟨y0,y1⟩;dsimp only at y0 y1 ⊢
 by_cases hy:y<l.l
 .have vU:=ans (b:=H.l) (n:=l.l) (k:=y.n) U;have iJ:=aaS H.l l.l y.n;simp[hy,Z,Rt,rZ,G0,iJ];refine nL (aE hy Z) (aE Rt rZ) (aE G0 iJ) ?_;have c7:pt (pH H.l l.l y.n) y (.gH (H.l+(y.n+1)))=pH H.l l.l (y.n+1):=n9;refine LJ.i (y+1) fZ ?_ rfl rfl mF;rw[c7,DS,hC,(U:(y+1).n=y.n+1),eF];rfl
 have yz:y=l.l:=U;subst yz;obtain⟨ow,P,Q,a⟩:=gA;rw[bF];obtain⟨H1,BB⟩:∃H1,H.set ck C++(.row 170 0 (pH H.l l.l l.l)::cc l.l (.map KS []))=H1:=⟨_,rfl⟩;rw[BB]at a ⊢;have u:=a.ct;rw[G0]at u;clear BB Z Rt rZ hy y0 y1;simp[u,uQ];refine kP u uQ ?_;refine gx.e ((H1,0,[],.gi):gd×Int×List Int×D) (λy=>[(0,.ptr ck 0 0),(3,y.2.2.2),(38,dcl),(39,.i L.l),(40,.i y.2.1)]) (λy=>y.1) (λy=>(0<=y.2.1/\y.2.1<=L.l)/\y.2.2.1=km (λc => !jr l.l c) (cs L) y.2.1.n/\y.2.2.1.l<=y.2.1.n/\∃ow P Q,HI H y.1 ck H.l l.l C (hM (jr l.l) (cs L) y.2.1.n) y.2.2.1 y.2.2.2 none ow P Q) (λy=>(L.l-y.2.1).n) ?_ ?_
 .exact⟨fZ,rfl,fZ,ow,P,Q,a⟩
 clear a u;rintro⟨Hc,k,bad,P9⟩ ⟨⟨k0,k1⟩,BL,l6,ow,P,Q,a⟩;dsimp only at k0 k1 BL l6 a ⊢
 by_cases S:k<L.l
 .obtain⟨pp,sH,oK⟩:=hd.ix k0 S;have oK:=oK Hc λv o hv hc=>(a.kp v o hv hc).1;have J:=hL _ (gF k0 S);have c1:=adX (gt L k) J;have w:=agN (p:=λc => !jr l.l c) k0 S;rw[<-BL]at w;have yh:=Qs J;rw[<-yh]at c1;have B:(iI (gt L k)).l=36:=Fl.len _;have V:gK (iI (gt L k))=true:=Fl.cl _;have A:(iI (gt L k)).take 36=iI (gt L k):=af U;have u:=a.ct;rw[G0]at u;have z:∀R:gd,(Hc++R)[ck]? = bb (.row 168 0 (g.cells ++ [gP l,.sl 1 (nx.map fN),dcl,.gf H.l 0 1 0 l.l])):=λR=>iD u;obtain⟨p,hp⟩:∃p,snd (gt L k).c=p:=⟨_,rfl⟩;rw[hp]at c1;simp[S,sH,oK];refine xQ B A sH oK ?_;simp[B,A];refine iZ.c rfl rfl c1 (by simp[V]) fZ ?_;have q:jr l.l (gt L k).c=(p&&decide ((gt L k).c.hi<=l.l)):=by unfold jr;rw[hp]
  have E:iI (gt L k)=D.i (gt L k).c.who::D.i (gt L k).c.lo::D.i (gt L k).c.hi::dE (gt L k).em (gt L k).c.es::cl fU (gt L k).c.root:=by rw[yh];unfold Cw.cells;rfl
  have RB:(k.n:Int)=k:=U
  have Nv:jr l.l (gt L k).c=ek->hM (jr l.l) (cs L) (k+1).n=hM (jr l.l) (cs L) k.n:=λh=>by rw[(U:(k+1).n=k.n+1)];refine afE ?_;rw[RB,QJ k0 S];exact h
  cases p
  .rw[Bool.false_and]at q;simp only[q,en,if_true]at w;have hX:(iI (gt L k)).take 36++(D.i 0::D.i 0::D.i 0::D.gi::AL.cl fU (zs 32)).drop (min 36 (iI (gt L k)).l)=iI (gt L k):=n9;simp[B,A];refine kP B A ?_;rcases a.bd with⟨rfl,rfl⟩|⟨BK,v,gn,rfl,F,vF⟩
   .simp;refine gh ?_;refine LJ.i (_,k+1,[k],.gf (Hc.l+2) 0 1 0 1) fZ rfl rfl rfl ?_;refine⟨gJ,iM,w.symm,gL,?_⟩;dsimp only;rw[Nv q,hX];have m:=(a.more (o:=.row 72 0 (iI (gt L k))) (Az V) (7,0,0)).more (o:=.row 3 0 [.i k]) rfl (7,0,0);obtain⟨pa,X⟩:=m.UT k;exact⟨pa,P,Q,by simpa[rC,je]using X⟩
   .have vG:∀R:gd,(Hc++R)[v]? = bb (.row 3 gn (AL.cl f1 bad)):=λR=>iD F;have Hj:∀(R:gd) (o:Ob),(Hc++R).set v o=Hc.set v o++R:=λR o=>aP _ _ (jw F);simp[vG,Hj];refine kP vG Hj ?_;refine LJ.i (_,k+1,bad ++ [k],.gf v (gn+1) 1 0 (bad.l+1)) fZ rfl rfl rfl ?_;refine⟨gJ,iM,w.symm,gL,?_⟩;dsimp only;rw[Nv q,hX];have m:=((a.UU (k:=k) BK F vF).more (o:=.row 72 0 (iI (gt L k))) (Az V) (7,0,0)).more (o:=.row 3 0 [.i k]) rfl (7,0,0);exact⟨_,P,Q,by simpa using m⟩
  .rw[eW]at q
   by_cases zX:(gt L k).c.hi<=l.l
   .rw[decide_eq_true zX]at q;simp only[q,Bool.not_true,bC,if_false]at w;have Ho:¬(l.l:Int)<(gt L k).c.hi:=U;have HP:=Pd hp;have hX:(iI (gt L k)).take 36++(D.i 0::D.i 0::D.i 0::D.gi::AL.cl fU (zs 32)).drop (min 36 (iI (gt L k)).l)=iI (gt L k):=n9;have o5:=VE J.em
    have XA:(gt L k).c.root.take 32++(zs 32).drop (min 32 (gt L k).c.root.l)=(gt L k).c.root:=by rw[J.root,af (by rw[J.root];omega)];simp
    simp[B,A,hX,E,z,Ho];refine xQ (aE B A) (aE hX E) (aE z Ho) o5 ?_;simp[o5,XA];refine gx.s (by simp[XA,<-E];rfl) ?_;rw[hX];have hB:=a.box (o:=.row 72 0 (iI (gt L k))) (Az V);have l9:(gt L k).c.hi=(gt L k).c.lo+(gt L k).c.es.l:=U;have W:gt (cs L) (k.n:Int)=(gt L k).c:=by rw[RB,QJ k0 S]
    refine gx.e ((Hc ++ [.row 72 0 (iI (gt L k))],0):gd×Int) (λy=>[(0,.ptr ck 0 0),(3,P9),(5,.i k),(6,.ptr Hc.l 0 0),(38,dcl),(39,.i L.l),(40,.i k),(63,dE (gt L k).em (gt L k).c.es),(64,.i (gt L k).c.es.l),(65,.i y.2)]) (λy=>y.1) (λy=>(0<=y.2/\y.2<=(gt L k).c.es.l)/\∃ow P Q,HI H y.1 ck H.l l.l C (hP (jr l.l) (cs L) k.n y.2.n) bad P9 (bb (Hc.l,.row 72 0 (iI (gt L k)))) ow P Q) (λy=>((gt L k).c.es.l-y.2).n) ?_ ?_
    .exact⟨fZ,_,P,Q,by rw[show(((Hc ++ [Ob.row 72 0 (iI (gt L k))],0):gd×Int).2).n=0 from rfl,afH];exact hB⟩
    clear a hB u z;rintro⟨f,e⟩ ⟨⟨e0,e1⟩,ow,P,Q,a⟩;dsimp only at e0 e1 a ⊢
    by_cases K:e<(gt L k).c.es.l
    .have e':(gt L k).em=false:=by
      cases h:(gt L k).em with
      | false=>rfl
      | true=>rw[J.em h]at K;simp at K;omega
     have e2:dE (gt L k).em (gt L k).c.es=iw (gt L k).c.es:=by rw[e'];rfl
     have u:=a.ct;rw[G0]at u;have z:∀R:gd,(f++R)[ck]? = bb (.row 168 0 (g.cells ++ [gP l,.sl 1 (nx.map fN),dcl,.gf H.l 0 1 0 l.l])):=λR=>iD u;have XI:∀R:gd,(f++R)[Hc.l]? = bb (.row 72 0 (iI (gt L k))):=λR=>iD (a.bx _ rfl).1;have sI:∀R:gd,(f++R)[H.l]? = bb (.row 170 0 ((ep l.l).map λj=>D.gH (P j))):=λR=>iD a.sg.row;obtain⟨r,hr⟩:∃r,gt (gt L k).c.es e=r:=⟨_,rfl⟩;obtain⟨j,hj⟩:∃j:Nat,(gt L k).c.lo+e=j:=⟨((gt L k).c.lo+e).n,U⟩;have O:j<l.l:=U;have mW:=J.lo;rw[e2];simp[K,hr];refine kP K hr ?_;simp[z,XI,sI,E,hj,O];refine nL (aE z XI) (aE sI E) (aE hj O) ?_;have vN:(gt (cs L) (k.n:Int)).lo.n+e.n=j:=by rw[W];omega
     have gA:hP (jr l.l) (cs L) k.n (e+1).n=wD (hP (jr l.l) (cs L) k.n e.n) j (oi r k (hP (jr l.l) (cs L) k.n e.n j)):=by have:=afG (ad:=jr l.l) (cl:=cs L) (k:=k.n) (e:=e.n) (by rw[W];exact HP.1);rw[vN,W,(U:(e.n:Int)=e),hr,RB]at this;rw[(U:(e+1).n=e.n+1)];exact this
     have G7:hP (jr l.l) (cs L) k.n e.n j=hM (jr l.l) (cs L) k.n j:=by have:=Xt (ad:=jr l.l) (cl:=cs L) (k:=k.n) (e:=e.n) (by rw[W];exact HP.1);rw[vN]at this;exact this
     have ij:∀t x,oj r (hP (jr l.l) (cs L) k.n e.n j)=bb (t,x)->x≠[]/\x.l<=k.n:=λt x h=>by rw[G7]at h;exact⟨afs h,afr h⟩
     obtain⟨s,Xq⟩:∃s,hP (jr l.l) (cs L) k.n e.n=s:=⟨_,rfl⟩;rw[Xq]at a gA ij;clear Xq G7 vN;obtain⟨p1,p2⟩:=a.sg.mp j O;have I:=jw p1;have hS:∀(R:gd) (o:Ob),(f++R).set (P j) o=f.set (P j) o++R:=λR o=>aP _ _ I
     cases hg:oj r (s j)with
     | none=>
      have N:∀R,yJ (.ints [.i64,.i64]) .gi (.gH (P j)) (.agg [.i r.1,.i r.2]) (f++R)=bb (.tup [.gi,.i (s j).l],.obj (P j) (.map KS (jd (Q j) 0 (s j) ++ [(lJ r,.gi)]))):=λR=>ahB (iD p1) hg;have hN:∀(o:Ob) (R:gd) (i:Nat),(f.set (P j) o++R)[f.l+i]? = R[i]? := λo R i=>jS
      have M:∀(d:D) (R:gd),Bh (.gH (P j)) (.i (s j).l) d (f.set (P j) (.map KS (jd (Q j) 0 (s j) ++ [(lJ r,.gi)]))++R)=bb (.any,.obj (P j) (.map KS (jd (Q j) 0 (s j) ++ [(lJ r,d)]))):=λd R=>by rw[VT (es:=jd (Q j) 0 (s j) ++ [(lJ r,.gi)]) (k:=lJ r) (d0:=.gi) (by rw[ah (by rw[aw];exact I),aN I]) (by rw[ak (by rw[Bl];omega),Bl,bW];rfl)];rw[dA _ _ (by rw[Bl];omega),Bl,bW];rfl
      have Y:∀(R:gd) (o o':Ob),(f.set (P j) o++R).set (P j) o'=f.set (P j) o'++R:=λR o o'=>by rw[aP _ _ (by rw[aw];exact I),List.set_set]
      simp[N,hS,hN,M,Y];refine nL (aE N hS) (aE hN M) Y ?_;refine LJ.i (_,e+1) fZ rfl rfl rfl ?_;refine⟨gJ,iM,?_⟩;dsimp only;rw[gA];have m:=(a.more (o:=.row 86 0 [.i r.1,.i r.2]) rfl (7,0,0)).more (o:=.row 3 0 [.i k]) rfl (7,0,0);obtain⟨pa,Q',X,_⟩:=m.new (r:=r) (k:=k) O hg;refine⟨pa,P,Q',?_⟩;have K:(f ++ [Ob.row 86 0 [.i r.1,.i r.2]] ++ [Ob.row 3 0 [.i k]]).l=f.l+2:=fZ;rw[K,aL,aP _ _ I]at X;simpa[rC,je,oI]using X
     | some tx=>
      obtain⟨t,x⟩:=tx;obtain⟨c5,qp⟩:=ij t x hg;have l7:0<x.l:=ay.2 c5;obtain⟨q1,q2⟩:=a.sg.ls j O t _ (zJ (k:=k) hg).1;have Et:=jw q1;have Aa:P j≠Q j t:=λe=>by rw[e,q2]at p2;simp at p2
      have xi:∀R:gd,(f++R)[Q j t]? = bb (.row 3 (x.l-1) (AL.cl f1 x)):=λR=>iD q1;have N:∀R,yJ (.ints [.i64,.i64]) .gi (.gH (P j)) (.agg [.i r.1,.i r.2]) (f++R)=bb (.tup [oI (Q j t) x,.i t],.obj (P j) (.map KS (jd (Q j) 0 (s j)))):=λR=>ahC (iD p1) hg;have Ae:f.set (P j) (.map KS (jd (Q j) 0 (s j)))=f:=sP p1;have hQ:∀(R:gd) (o:Ob),(f++R).set (Q j t) o=f.set (Q j t) o++R:=λR o=>aP _ _ Et
      have M:∀(d:D) (o:Ob) (R:gd),Bh (.gH (P j)) (.i t) d (f.set (Q j t) o++R)=bb (.any,.obj (P j) (.map KS ((jd (Q j) 0 (s j)).set t (lJ r,d)))):=λd o R=>by
       refine VT (k:=lJ r) (d0:=oI (Q j t) x) ?_ ?_
       .rw[ah (by rw[aw];exact I),aM (cz Aa)];exact p1
       .rw[vt,(zJ (k:=k) hg).1];simp
      have Y:∀(R:gd) (o o':Ob),(f.set (Q j t) o++R).set (P j) o'=(f.set (Q j t) o).set (P j) o'++R:=λR o o'=>aP _ _ (by rw[aw];exact I);simp[N,hS,Ae,xi,hQ,M,Y,oI];(with_reducible repeat' first|refine Xk ?_<;>try simp[N,hS,Ae,xi,hQ,M,Y,oI]|refine Xs ?_ ?_<;>intro h<;>(try intro h')<;>(try simp[h,N,hS,Ae,xi,hQ,M,Y,oI])<;>try omega|refine Xg ?_|omega);refine LJ.i (_,e+1) fZ rfl rfl rfl ?_;refine⟨gJ,iM,?_⟩;dsimp only;rw[gA];have m:=((a.old (r:=r) (k:=k) O hg).more (o:=.row 86 0 [.i r.1,.i r.2]) rfl (7,0,0)).more (o:=.row 3 0 [.i k]) rfl (7,0,0);have lA:(x ++ [k]).l-1=x.l-1+1:=gL;have kR:(x ++ [k]).l=x.l+1:=fZ;have:oI (Q j t) (x ++ [k]) = .gf (Q j t) (x.l-1+1) 1 0 (x.l+1):=by unfold oI;rw[lA,kR]
      rw[this]at m;unfold rC at m;rw[lA]at m;rw[aL]at m;exact⟨_,P,Q,m⟩
    have m':e=(gt L k).c.es.l:=U
    have yi:hP (jr l.l) (cs L) k.n e.n=hM (jr l.l) (cs L) (k+1).n:=by rw[(U:(k+1).n=k.n+1)];exact afF (by rw[W];exact q) (by rw[W];omega)
    rw[yi]at a;simp[K];refine gh ?_;refine LJ.i (f,k+1,bad,P9) fZ rfl rfl rfl ?_;exact⟨gJ,iM,w.symm,gJ,ow,P,Q,a.nob⟩
   .rw[decide_eq_false zX]at q;have Ho:(l.l:Int)<(gt L k).c.hi:=U;simp only[q,en,if_true]at w;have hX:(iI (gt L k)).take 36++(D.i 0::D.i 0::D.i 0::D.gi::AL.cl fU (zs 32)).drop (min 36 (iI (gt L k)).l)=iI (gt L k):=n9;simp[B,A,hX,E,z,Ho];refine nL (aE B A) (aE hX E) (aE z Ho) ?_;rcases a.bd with⟨rfl,rfl⟩|⟨BK,v,gn,rfl,F,vF⟩
    .simp;refine gh ?_;refine LJ.i (_,k+1,[k],.gf (Hc.l+2) 0 1 0 1) fZ rfl rfl rfl ?_;refine⟨gJ,iM,w.symm,gL,?_⟩;dsimp only;rw[Nv q,hX];have m:=(a.more (o:=.row 72 0 (iI (gt L k))) (Az V) (7,0,0)).more (o:=.row 3 0 [.i k]) rfl (7,0,0);obtain⟨pa,X⟩:=m.UT k;exact⟨pa,P,Q,by simpa[rC,je]using X⟩
    .have vG:∀R:gd,(Hc++R)[v]? = bb (.row 3 gn (AL.cl f1 bad)):=λR=>iD F;have Hj:∀(R:gd) (o:Ob),(Hc++R).set v o=Hc.set v o++R:=λR o=>aP _ _ (jw F);simp[vG,Hj];refine kP vG Hj ?_;refine LJ.i (_,k+1,bad ++ [k],.gf v (gn+1) 1 0 (bad.l+1)) fZ rfl rfl rfl ?_;refine⟨gJ,iM,w.symm,gL,?_⟩;dsimp only;rw[Nv q,hX];have m:=((a.UU (k:=k) BK F vF).more (o:=.row 72 0 (iI (gt L k))) (Az V) (7,0,0)).more (o:=.row 3 0 [.i k]) rfl (7,0,0);exact⟨_,P,Q,by simpa using m⟩
 have vO:k=L.l:=U;subst vO;rw[bF]at a BL;rw[<-BL];simp;refine gh ?_;exact⟨ow,P,Q,a⟩
end Go.Proofs.YtmehofoficaelaaGreatDoor
namespace Go.Proofs.YtmehofoficaelaaGreatDoor
open Go Go.AL Classical
set_option maxRecDepth 10000
set_option maxHeartbeats 8000000
def aeW(g:gq)(hg:gR g)(l:List Pos)(b:lZ g l)(h0:0<l.l)(v:List gg)(s:v.l=l.l)(u:∀k:Int,0<=k->k<v.l->0<=(gt v k).2/\(gt v k).2<=4000) :
  Wf T 42 [dG g,gP l,iw v] [] (Ey (λn:Int=>.tup [.i n,.i 0]) λn=>n<0↔∀k:Int,0<=k->k<l.l->na (jv g l (gE g l)) v k):=by
 have t:=b.len;have E:(gE g l).l=l.l:=by simp[gE]
 have f:=λi i0 j=>(pZ b (i:=i) i0 j).2
 have B:∀k:Int,0<=k->k<l.l->(gt (gE g l) k).l<=4000000000:=λk k0 k1=>by rw[(pZ b k0 k1).1,b4];have:=yN hg (b.ok _ (gF k0 k1));omega
 refine Yg LF ?_;simp[LF];refine Yc (f52 g hg l b h0) ?_;simp;refine gh ?_;refine gx.e (0:Int) (λy=>[(2,iw v),(3,.ptr 0 0 0),(8,.sl 1 ((gE g l).map fN)),(30,gP l),(31,.i l.l),(32,.i y)]) (λy=>[.row 43 0 g.cells]) (λy=>(0<=y/\y<=l.l)/\∀k:Int,0<=k->k<y->na (jv g l (gE g l)) v k) (λy=>(l.l-y).n) ?_ ?_
 .exact⟨fZ,λk k0 k1=>U⟩
 rintro i ⟨⟨i0,j⟩,m⟩;dsimp only at i0 j m ⊢
 have q:na (jv g l (gE g l)) v i->∀k:Int,0<=k->k<i+1->na (jv g l (gE g l)) v k:=λh k k0 k1=>by
  by_cases e:k=i
  .rw[e];exact h
  .exact m k k0 U
 by_cases hi:i<l.l
 .have D:=b.ok _ (gF i0 hi)
  have p:¬na (jv g l (gE g l)) v i->Ex (λn:Int=>.tup [.i n,.i 0]) (λn=>n<0↔∀k:Int,0<=k->k<l.l->na (jv g l (gE g l)) v k) (.tup [.i i,.i 0]) []:=λh=>
   ⟨i,rfl,rfl,⟨λc=>U,λc=>absurd (c i i0 hi) h⟩⟩
  simp[hi,x7];refine gh ?_;refine Yq (f56 v (gt (gE g l) i) (λk d=>by rw[s];exact f i i0 hi k d) (B i i0 hi) (λk k0 k1=>u k k0 k1)) λr C=>?_;simp;refine gh ?_;refine Yc (f54 g hg (gt l i) D) ?_;simp;have x:(stat g (gt l i)).2=dx->(na (jv g l (gE g l)) v i↔gt v i=((stat g (gt l i)).1,0)):=λh=>aho (A:=jv g l (gE g l)) h;have w:(stat g (gt l i)).2=ek->(na (jv g l (gE g l)) v i↔gt v i=r):=λh=>Di.iff (A:=jv g l (gE g l)) (λk d=>(u k (f i i0 hi k d).1 (by rw[s];exact(f i i0 hi k d).2)).1) h C;(with_reducible repeat' first|refine Xk ?_<;>try simp|refine Xs ?_ ?_<;>intro h<;>(try intro F)<;>(try simp[h])<;>try omega|refine Xg ?_|omega)
  .have a:=(x ‹_›).2 (dh jZ jZ);refine LJ.e (i+1) ?_;exact⟨U,iM,q a⟩
  .have a:¬na (jv g l (gE g l)) v i:=λh=>absurd ((x ‹_›).1 h) (by intro e;simp_all);obtain⟨n,h1,c,o⟩:=p a;exact Ey.i n h1 c o
  .have a:=(w n9).2 (dh n9 n9);refine LJ.e (i+1) ?_;exact⟨U,iM,q a⟩
  .have a:¬na (jv g l (gE g l)) v i:=λh=>absurd ((w n9).1 h) (by intro e;simp_all);obtain⟨n,h1,c,o⟩:=p a;exact Ey.i n h1 c o
 .have z:i=l.l:=by omega
  subst z;simp;refine gh ?_;exact Ey.i (-1) rfl rfl ⟨λ_=>m,λ_=>U⟩
set_option maxHeartbeats 16000000
attribute [-simp] uK
def acB{l:List gg}{n:Int}(n0:0<=n)(h:n<l.l)(a:Int):(cl fS l).take (n.n*2) ++ .i a::(cl fS l).drop (n.n*2+1)=cl fS (pt l n (a,(gt l n).2)):=by
 have e:(cl fS l).drop (n.n*2+1) = .i (gt l n).2::(cl fS l).drop (n.n*2+2):=by
  have h1:(cl fS l).drop (n.n*2) = .i (gt l n).1 :: .i (gt l n).2::cl fS (l.drop (n.n+1)):=by rw[uH,oe n0 h,nb,DJ];rfl
  have b:(cl fS l).drop (n.n*2+2)=cl fS (l.drop (n.n+1)):=by rw[(U:n.n*2+2=(n.n+1)*2),uH]
  rw[b,<-b9,h1];rfl
 rw[e];exact Gj a _
def IE{n:Nat}{H G:gd}(h:jz H.l H)(a:n=H.l)(b:jz n G):jz (H++G).l (H++G):=by subst a;rw[aq];exact ui (xy U h) (xy U b)
section
variable{H:gd}{ck sr n:Nat}{M:Nat->kn}{ow:Nat->Nat×Nat×Nat}{P:Nat->Nat}{Q:Nat->Nat->Nat}{cells:List D}
theorem mw.app(h:mw H ck sr n M ow P Q)(G:gd):mw (H++G) ck sr n M ow P Q:=h.mono λ_ _ a _=>iD a
theorem Wl(l:mw H ck sr n M ow P Q)(gp:jz H.l H)(h:H[ck]? = bb (.row 168 0 cells))(f:cells[12]? = bb (.gf sr 0 1 0 n))
  {cm:List gV} (u:cm.l<=100000) {i:Int} (i0:0<=i) (j:i<n) (hM:M i.n=gU cm i) {t2 t3:Nat} (b:H[t2]? = bb (.row 157 0 [.ptr ck 0 0])) (a:H[t3]? = bb (.row 3 0 [.i i])) (q:gg) :
  Wf T 186 [.agg [.i q.1,.i q.2],.ptr t2 0 0,.ptr t3 0 0] H (λd H'=>d=dN 1 f1 (km (λc=>mR c i&&decide (mb c i≠q)) cm cm.l)/\H'=H):=by
 have g:∀R:gd,(H++R)[t2]? = bb (.row 157 0 [.ptr ck 0 0]):=λR=>iD b;have e:∀R:gd,(H++R)[t3]? = bb (.row 3 0 [.i i]):=λR=>iD a;refine Yg J2 ?_;simp[J2,g,e];refine gy.lr rfl rfl (Qm (H:=H ++ [.row 86 0 [.i q.1,.i q.2]]) (l.app _) (IE gp rfl λo m=>by rw[bs.1 m];rfl) (iD h) f u i0 j hM (w:=λr=>decide (r≠q)) λr dst s K p k=>?_) ?_
 .have t:=p H.l (.row 86 0 [.i q.1,.i q.2]) fZ;exact Yr (aex r q) k rfl rfl (by simp[t])
 .rintro _ H' ⟨rfl,rfl⟩;simp[Ap gp]
end
end Go.Proofs.YtmehofoficaelaaGreatDoor
namespace Go.Proofs.YtmehofoficaelaaGreatDoor
open Go Go.AL Classical
set_option maxRecDepth 10000
set_option maxHeartbeats 16000000
attribute [-simp] uK
def qw(cm:List gV)(m j k:Int)(V:List gg)(seen:List Nat):List gg:=if seen≠[]/\(gU cm j).l=1/\(oG (sd cm j)).2<m then pt (pt V k (2,0)) k (oG (sd cm j))else pt V k (2,0)
@[simp] theorem aox(cm:List gV)(m j k:Int)(V:List gg):qw cm m j k V []=pt V k (2,0):=if_neg λh=>h.1 rfl
section
variable{cm:List gV}{m j k:Int}{V:List gg}{seen:List Nat}
theorem abr(k0:0<=k)(k1:k<V.l):(qw cm m j k V seen).l=V.l:=by
 unfold qw;have h:=iW (l:=V) (v:=((2,0):gg)) k0 k1;split
 .rw[iW k0 U,h]
 .exact h
theorem abt(k0:0<=k)(k1:k<V.l){i:Int}(i0:0<=i)(h:i≠k):gt (qw cm m j k V seen) i=gt V i:=by
 unfold qw;have hl:=iW (l:=V) (v:=((2,0):gg)) k0 k1;split
 .rw[py k0 U i0,if_neg h,py k0 k1 i0,if_neg h]
 .rw[py k0 k1 i0,if_neg h]
theorem aow(k0:0<=k)(k1:k<V.l)(hs:sd cm j≠[])(d:∀t,t<(gU cm j).l->t∈seen):gt (qw cm m j k V seen) k=x5 cm m j:=by
 unfold qw x5;have hl:=iW (l:=V) (v:=((2,0):gg)) k0 k1;have f:(gU cm j).l≠0:=λh=>hs (No.1 h)
 have b:seen≠[]:=λh=>by have:=d 0 U;rw[h]at this;cases this
 have a:(gU cm j).l=1↔nQ (sd cm j)=false:=by
  have:=GU (cl:=cm) (i:=j)
  cases e:nQ (sd cm j)with
  | true=>
   rw[e]at this;constructor
   .grind
   .grind
  | false=>
   rw[e]at this;constructor
   .intro _;rfl
   .grind
 by_cases c:nQ (sd cm j)=ek/\(oG (sd cm j)).2<m
 .rw[if_pos c,if_pos ⟨b,a.2 c.1,c.2⟩,py k0 U k0,if_pos rfl]
 .rw[if_neg c,if_neg λh=>c ⟨a.1 h.2.1,h.2.2⟩,py k0 k1 k0,if_pos rfl]
end
section
variable{H:gd}{ck sr n:Nat}{M:Nat->kn}{ow:Nat->Nat×Nat×Nat}{P:Nat->Nat}{Q:Nat->Nat->Nat}
theorem aei(g:gq)(hg:gR g)(l:List Pos)(hc:lZ g l){dcl:D}(o5:n=l.l)(E:mw H ck sr n M ow P Q)(gp:jz H.l H)(S:H[ck]? = bb (.row 168 0 (kq g l (gE g l) dcl (.gf sr 0 1 0 n))))
  {cm:List gV} (h8:cm.l<=100000) {i:Int} (i0:0<=i) (C:i<n) (hM:∀j,j<n->M j=gU cm j)
  (hp:∀j:Int,0<=j->j<l.l->∀r∈sd cm j,nH r=dx) (hb:∀j:Int,0<=j->j<l.l->∀r∈sd cm j,r.2<=4000) (hs:∀j:Int,0<=j->j<l.l->sd cm j≠[]) :
  Wf T 123 [.ptr ck 0 0,.i i] H (λd H'=>d=dN 1 f1 (km (tt (jv g l (gE g l)) cm i) cm cm.l)/\H'=H):=by
 subst o5;have g4:=hc.len;have vT:=hc.ok _ (gF i0 C);have vS:(gE g l).l=l.l:=by simp[gE]
 have ib:=(pZ hc (i:=i) i0 C).2;have ij:=(pZ hc (i:=i) i0 C).1
 have qp:(gt (gE g l) i).l<=4000000000:=by rw[ij,b4];have:=yN hg vT;omega
 have tT:(stat g (gt l i)).2=ek->0<(gt (gE g l) i).l:=λh=>by
  rw[ij,b4];have:iY g (gt l i)≠[]:=λe=>by unfold stat at h;simp[e]at h
  exact ay.2 this
 have P5:=f54 g hg (gt l i) vT;obtain⟨m,hm⟩:∃m,oB (sd cm i)=m:=⟨_,rfl⟩
 have vY:(stat g (gt l i)).2=dx->∀c∈cm,(mR c i&&decide (mb c i≠((stat g (gt l i)).1,0)))=tt (jv g l (gE g l)) cm i c:=λh c _=>by unfold tt;rw[if_pos (show(jv g l (gE g l)).ov i=dx from h)];rfl
 have B:(stat g (gt l i)).2=ek->(oP ((gt (gE g l) i).map (x5 cm m))).1≠2->∀c∈cm,(mR c i&&decide (mb c i≠oP ((gt (gE g l) i).map (x5 cm m))))=tt (jv g l (gE g l)) cm i c:=λh f c _=>by unfold tt;rw[if_neg (by rw[show(jv g l (gE g l)).ov i=ek from h];simp),hm,ZN,show gt (jv g l (gE g l)).nx i=gt (gE g l) i from rfl,if_pos f]
 have A:(stat g (gt l i)).2=ek->(oP ((gt (gE g l) i).map (x5 cm m))).1=2->∀c∈cm,(mR c i&&decide ((mb c i).1≠2/\(mb c i).2=m))=tt (jv g l (gE g l)) cm i c:=λh f c _=>by unfold tt;rw[if_neg (by rw[show(jv g l (gE g l)).ov i=ek from h];simp),hm,ZN,show gt (jv g l (gE g l)).nx i=gt (gE g l) i from rfl,if_neg (by rw[f];simp)]
 obtain⟨W,hW⟩:∃W,km (tt (jv g l (gE g l)) cm i) cm cm.l=W:=⟨_,rfl⟩;have Nx:∀p:gV->Bool,(∀c∈cm,p c=tt (jv g l (gE g l)) cm i c)->km p cm cm.l=W:=λp h=>by rw[<-hW];exact YU U h
 rw[hW];obtain⟨nx,oq⟩:∃nx,gE g l=nx:=⟨_,rfl⟩;rw[oq]at S vS ib qp tT B A Nx vY;obtain⟨st,gA⟩:∃st,stat g (gt l i)=st:=⟨_,rfl⟩;rw[gA]at P5 tT vY B A;obtain⟨o,ov⟩:=st;dsimp only at P5 tT vY B A;have qh:(kq g l nx dcl (.gf sr 0 1 0 l.l))[12]? = bb (.gf sr 0 1 0 l.l):=by unfold kq;simp
 have v:∀R:gd,(H++R)[ck]? = bb (.row 168 0 [.i g.size,.sl 1 (g.next.map fI),dI g.jD,.sl 3 (g.kinds.map Kind.cells),.i g.gO,.b g.oQ,dN 4 Clause.cells g.clauses,.i g.blocked,.i g.vo,gP l,.sl 1 (nx.map fN),dcl,.gf sr 0 1 0 l.l]):=λR=>by rw[iD S];unfold kq;simp
 have XJ:=jw S;have hA:nG H.l (.row 157 0 [.ptr ck 0 0])=true:=by simp[XJ]
 have yd:∀(G:gd),jz H.l G->jz (H++(Ob.row 157 0 [.ptr ck 0 0]::Ob.row 3 0 [.i i]::G)).l (H++(Ob.row 157 0 [.ptr ck 0 0]::Ob.row 3 0 [.i i]::G)):=λG hG=>IE gp rfl λx E=>by
  rcases av.1 E with rfl|E
  .exact hA
  .rcases av.1 E with rfl|E
   .rfl
   .exact hG x E
 have G6:∀j:Int,0<=j->j<l.l->M j.n=gU cm j:=λj j0 j1=>jS;refine Yg JU ?_;simp[JU,v];refine jT v ?_;refine Yt (P5) ?_;simp[v];cases ov
 .have tT:=tT rfl;have B:=B rfl;have A:=A rfl;obtain⟨x,B8⟩:∃x,gt nx i=x:=⟨_,rfl⟩;rw[B8]at ib qp tT B A;simp;refine gh ?_;refine gy.w mu ?_;refine gy.lr rfl rfl (Qn (H:=H ++ [.row 157 0 [.ptr ck 0 0],.row 3 0 [.i i]]) (E.app _) (yd [] λ_ h=>by cases h) (iD S) qh i0 C (G6 i i0 C) (hp i i0 C)) ?_;rintro _ H' ⟨rfl,rfl⟩;rw[hm];simp[v,B8,x7];refine nL v B8 x7 ?_;have hz:(cc x.l [D.i 0,D.i 0]).flatten=AL.cl fS (cc x.l (0,0)):=n9;refine gx.s (by simp[hz];rfl) ?_;refine gx.e ((0,cc x.l (0,0),[]):Int×List gg×gd) (λy=>[(2,.ptr H.l 0 0),(3,.ptr (H.l+1) 0 0),(5,.fn (.func 186) [] [.ptr H.l 0 0,.ptr (H.l+1) 0 0]),(8,.ptr (H.l+2) 0 0),(9,.gf (H.l+3) 0 2 0 x.l),(53,dN 1 f1 x),(54,.i x.l),(55,.i y.1)]) (λy=>H++(.row 157 0 [.ptr ck 0 0] :: .row 3 0 [.i i] :: .row 3 0 [.i m] :: .row 86 0 (AL.cl fS y.2.1)::y.2.2)) (λy=>(0<=y.1/\y.1<=x.l)/\y.2.1.l=x.l/\(∀j:Int,0<=j->j<y.1->gt y.2.1 j=x5 cm m (gt x j))/\(∀j:Int,y.1<=j->j<x.l->gt y.2.1 j=(0,0))/\jz H.l y.2.2) (λy=>(x.l-y.1).n) ?_ ?_
  .refine⟨fZ,fZ,λj j0 j1=>absurd j1 gJ,λj j0 j1=>?_,λ_ h=>by cases h⟩;rw[iX j0 (by simpa using j1)];simp
  rintro⟨k,V,R⟩ ⟨⟨k0,k1⟩,hV,zS,Q7,hR⟩;dsimp only at k0 k1 hV zS Q7 hR ⊢
  by_cases hk:k<x.l
  .obtain⟨j,hj⟩:∃j,gt x k=j:=⟨_,rfl⟩;have a:=ib _ (gF k0 hk);rw[hj]at a;have NQ:=acB k0 (by omega:k<V.l) 2;rw[Q7 k U hk]at NQ;obtain⟨p1,_⟩:=E.mp j.n U;rw[G6 j a.1 a.2]at p1;have N:∀R:gd,(H++R)[sr]? = bb (.row 170 0 ((ep l.l).map λj=>D.gH (P j))):=λR=>iD E.row;obtain⟨p,L⟩:∃p,P j.n=p:=⟨_,rfl⟩;obtain⟨q,yy⟩:∃q,Q j.n=q:=⟨_,rfl⟩;rw[L,yy]at p1;have I:∀R:gd,(H++R)[p]? = bb (.map KS (jd q 0 (gU cm j))):=λR=>iD p1;have iP:=jw p1;simp[hk,hj,v,NQ,N,L,I,a.1,a.2];refine nL (aE hk (aE hj v)) (aE NQ (aE N L)) (aE I (aE a.1 a.2)) ?_;refine gx.s (by simp[NQ];rfl) ?_;refine gx.e (([],[]):List Nat×gd) (λz=>[(2,.ptr H.l 0 0),(3,.ptr (H.l+1) 0 0),(5,.fn (.func 186) [] [.ptr H.l 0 0,.ptr (H.l+1) 0 0]),(8,.ptr (H.l+2) 0 0),(9,.gf (H.l+3) 0 2 0 x.l),(10,.i k),(11,.i j),(53,dN 1 f1 x),(54,.i x.l),(55,.i k),(71,.ptr (H.l+(R.l+4)) 0 0)]) (λz=>H++(.row 157 0 [.ptr ck 0 0] :: .row 3 0 [.i i] :: .row 3 0 [.i m] :: .row 86 0 (AL.cl fS (qw cm m j k V z.1))::(R ++ .jo (.gH p) (gU cm j).l z.1::z.2))) (λz=>z.1.Nodup/\(∀t∈z.1,t<(gU cm j).l)/\jz H.l z.2) (λz=>(gU cm j).l-z.1.l) ?_ ?_
   .simp_all
   rintro⟨seen,Z⟩ ⟨mq,gM,hZ⟩;dsimp only at mq gM hZ ⊢;simp;refine uC.at (m:=p) (since:=(gU cm j).l) (seen:=seen) (kk:=KS) (es:=jd q 0 (gU cm j)) fZ (by simp[I]) fZ (λjL=>?_) λt kv dv he hi=>?_
   .have jL:∀t,t<(gU cm j).l->t∈seen:=by simpa using jL
    simp;refine gh ?_;refine LJ.i (k+1,qw cm m j k V seen,R ++ .jo (.gH p) (gU cm j).l seen::Z) fZ fZ rfl rfl ?_;refine⟨gJ,iM,by rw[abr k0 U];exact hV,λi' h0 h1=>?_,λi' h0 h1=>?_,ui hR λo b=>?_⟩
    .dsimp only at h1 ⊢
     by_cases e:i'=k
     .subst e;rw[hj];exact aow k0 U (hs j a.1 a.2) jL
     .rw[abt k0 U h0 e];exact zS i' h0 U
    .dsimp only at h0 ⊢;rw[abt k0 U U U];exact Q7 i' U h1
    .rcases av.1 b with rfl|b
     .show decide (p<H.l)=dx;exact decide_eq_true iP
     .exact hZ o b
   .rw[vt]at he;obtain⟨y,tU,HW⟩:=ao.1 he;cases HW;have O:=IZ mq gM (ae.1 tU).1 hi;have X:(jd q 0 (gU cm j))[t]? = bb (lJ y.1,oI (q t) y.2):=by rw[vt,tU];simp
    have e:(H++(Ob.row 157 0 [.ptr ck 0 0]::Ob.row 3 0 [.i i]::Ob.row 3 0 [.i m]::Ob.row 86 0 (AL.cl fS (qw cm m j k V seen))::(R++Ob.jo (.gH p) (gU cm j).l seen::Z))).set (H.l+(R.l+4)) (.jo (.gH p) (gU cm j).l (seen ++ [t]))=H++(Ob.row 157 0 [.ptr ck 0 0]::Ob.row 3 0 [.i i]::Ob.row 3 0 [.i m]::Ob.row 86 0 (AL.cl fS (qw cm m j k V seen))::(R++Ob.jo (.gH p) (gU cm j).l (seen ++ [t])::Z)):=fZ;rw[e]
    have uS:(gU cm j).l-(seen ++ [t]).l<(gU cm j).l-seen.l:=by have:=O.2.2;rw[aq,bj]at this ⊢;omega
    have jg:=abr (cm:=cm) (m:=m) (j:=j) (seen:=seen) k0 (by omega:k<V.l)
    by_cases h1:(gU cm j).l=1
    .have R5:t=0:=by have:=(ae.1 tU).1;omega
     have tS:seen = []:=bn.2 λu hu=>by have:=gM u hu;rw[(U:u=t)]at hu;exact hi hu
     have hy:y.1=oG (sd cm j):=W5 (by
      obtain⟨z,hz⟩:=fG.1 h1;rw[hz,R5]at tU;cases tU
      exact hz)
     subst tS;obtain⟨⟨J,F⟩,ls⟩:=y;dsimp only at hy X
     by_cases f:F<m
     .have hv:qw cm m j k V ([] ++ [t])=pt (pt V k (2,0)) k (J,F):=by unfold qw;rw[if_pos ⟨fZ,h1,by rw[<-hy];exact f⟩,hy]
      have Ep:=Gj (l:=pt V k (2,0)) (n:=k) J F;simp[I,X,v,N,L,a.1,a.2,h1,f,Ep];refine xQ (aE I (aE X v)) (aE N (aE L a.1)) (aE a.2 (aE h1 f)) Ep ?_;rw[aox]at jg;refine⟨by rw[jg];omega,?_⟩;refine LJ.i ([] ++ [t],Z ++ [.row 86 0 [.i J,.i F]]) fZ (by rw[hv];simp[h1]) rfl rfl ?_;exact⟨uS,O.1,O.2.1,ui hZ λo b=>by rw[bs.1 b];rfl⟩
     .have hv:qw cm m j k V ([] ++ [t])=pt V k (2,0):=by unfold qw;rw[if_neg λh=>f (by have:=h.2.2;rw[<-hy]at this;exact this)]
      simp[I,X,v,N,L,a.1,a.2,h1,f];refine nL (aE I (aE X v)) (aE N (aE L a.1)) (aE a.2 (aE h1 f)) ?_;refine LJ.i ([] ++ [t],Z ++ [.row 86 0 [.i J,.i F]]) fZ (by rw[hv];simp[h1]) rfl rfl ?_;exact⟨uS,O.1,O.2.1,ui hZ λo b=>by rw[bs.1 b];rfl⟩
    .have hv:qw cm m j k V (seen ++ [t])=qw cm m j k V seen:=by unfold qw;rw[if_neg λh=>h1 h.2.1,if_neg λh=>h1 h.2.1]
     simp[I,X,v,N,L,a.1,a.2,h1];refine xQ (aE I X) (aE v N) (aE L a.1) (aE a.2 h1) ?_;refine LJ.i (seen ++ [t],Z ++ [.row 86 0 [.i y.1.1,.i y.1.2]]) fZ (by simp[hv]) rfl rfl ?_;exact⟨uS,O.1,O.2.1,ui hZ λo b=>by rw[bs.1 b];rfl⟩
  have vO:k=x.l:=U
  have D2:V=x.map (x5 cm m):=by refine bg (by rw[b4];exact hV) λj j0 j1=>?_;have h:=zS j U U;rw[iX U U,iX (l:=x) U U]at h;rw[eh];exact h
  rw[<-D2]at B A
  have BF:∀r∈V,0<=r.2/\r.2<=4000:=λr hr=>by
   rw[D2]at hr;obtain⟨j,hj,rfl⟩:=az.1 hr;have a:=ib j hj;unfold x5;split
   .have hf:=GO (hs j a.1 a.2);have h1:=hp j a.1 a.2 _ hf;have f:=hb j a.1 a.2 _ hf;refine⟨?_,f⟩;unfold nH at h1;simp only[decide_eq_true_eq]at h1;rcases h1 with e|e
    .rw[e];decide
    .exact e.2
   .exact⟨jh,jh⟩
  have Y:=ael V U U BF;obtain⟨r,hr⟩:∃r,oP V=r:=⟨_,rfl⟩;rw[hr]at Y B A;obtain⟨J,F⟩:=r;dsimp only at Y B A;simp[hk];refine gh ?_;refine Yr Y ?_ rfl rfl (by simp[hV]) (by simp[flat,oX]) fZ
  have hG:jz H.l (Ob.row 3 0 [.i m]::Ob.row 86 0 (AL.cl fS V)::(R ++ [Ob.row 86 0 [.i J,.i F]])):=λo b=>by
   rcases av.1 b with rfl|b
   .rfl
   .rcases av.1 b with rfl|b
    .exact AA _
    .rcases aj.1 b with b|b
     .exact hR o b
     .rw[bs.1 b];rfl
  by_cases f:J=2
  .subst f;have A:=A rfl;simp;refine gh ?_;refine gy.w mu ?_;refine gy.lr rfl rfl (Qm (H:=H++(.row 157 0 [.ptr ck 0 0] :: .row 3 0 [.i i] :: .row 3 0 [.i m] :: .row 86 0 (AL.cl fS V)::(R ++ [.row 86 0 [.i 2,.i F]]))) (E.app _) (yd _ hG) (iD S) qh h8 i0 C (G6 i i0 C) (w:=λr=>decide (r.1≠2/\r.2=m)) λr dst s K kZ k'=>?_) ?_
   .have hb:=kZ (H.l+2) (.row 3 0 [.i m]) fZ;exact Yr (aey r m) k' rfl rfl (by simp[hb])
   .rintro _ H' ⟨rfl,rfl⟩;rw[Nx _ A];simp[Ap gp]
  .have B:=B f;simp[f];refine jT f ?_;have Ge:=Wl (H:=H++(.row 157 0 [.ptr ck 0 0] :: .row 3 0 [.i i] :: .row 3 0 [.i m] :: .row 86 0 (AL.cl fS V)::(R ++ [.row 86 0 [.i J,.i F]]))) (E.app _) (yd _ hG) (iD S) qh h8 i0 C (G6 i i0 C) (t2:=H.l) (t3:=H.l+1) fZ fZ (J,F);rw[Nx _ B]at Ge;refine gy.w mu ?_;refine gy.lr rfl rfl Ge ?_;rintro _ H' ⟨rfl,rfl⟩;simp[Ap gp]
 .have vY:=vY rfl;have Ge:=Wl (H:=H ++ [.row 157 0 [.ptr ck 0 0],.row 3 0 [.i i]]) (E.app _) (yd [] λ_ h=>by cases h) (iD S) qh h8 i0 C (G6 i i0 C) (t2:=H.l) (t3:=H.l+1) fZ fZ (o,0);rw[Nx _ vY]at Ge;simp;refine gh ?_;refine gy.w mu ?_;refine gy.lr rfl rfl Ge ?_;rintro _ H' ⟨rfl,rfl⟩;simp[Ap gp]
end
end Go.Proofs.YtmehofoficaelaaGreatDoor
namespace Go.Proofs.YtmehofoficaelaaGreatDoor
open Go Go.AL Classical
set_option maxRecDepth 10000
set_option maxHeartbeats 16000000
attribute [-simp] uK
section
variable{H:gd}{ck sr n:Nat}{M:Nat->kn}{ow:Nat->Nat×Nat×Nat}{P:Nat->Nat}{Q:Nat->Nat->Nat}
theorem aef{p:Nat}{kk:KK}{es:List (Value×D)}(a:H[p]? = bb (.map kk es)):Wf T 118 [.gH p] H (λd H'=>d = .b (decide (es.l=0))/\H'=H):=by refine Yg JO ?_;simp[JO,a]
theorem aew(g:mw H ck sr n M ow P Q)(o:n<=1000):Wf T 185 [.gf sr 0 1 0 n,.fn (.func 118) [] []] H (λd H'=>∃v:Int,d = .i v/\H'=H/\(0<=v↔∃j,j<n/\(M j).l=0)):=by
 have f:=g.row;refine Yg J1 ?_;simp[J1];refine gx.e (0:Int) (λy=>[(0,.gf sr 0 1 0 n),(1,.fn (.func 118) [] []),(7,.i n),(8,.i y)]) (λy=>H) (λy=>(0<=y/\y<=n)/\∀j,j<y.n->(M j).l≠0) (λy=>(n-y).n) ?_ ?_
 .grind
 rintro y ⟨⟨c,k⟩,i⟩;dsimp only at c k i ⊢
 by_cases b:y<n
 .obtain⟨l,_⟩:=g.mp y.n U;have a:y.n<n:=U;simp[b,f,a];refine nL b f a ?_;refine gy.lr rfl rfl (aef (H:=H) l) ?_;rintro _ H' ⟨rfl,rfl⟩;rw[Bl]
  by_cases h0:(M y.n).l=0
  .rw[decide_eq_true h0];simp;refine gh ?_;exact⟨λ_=>⟨y.n,a,aA.1 h0⟩,λ_=>c⟩
  .rw[decide_eq_false h0];simp;refine gh ?_;refine LJ.i (y+1) fZ rfl rfl rfl ⟨U,iM,λj m=>?_⟩
   by_cases e:j=y.n
   .grind
   .grind
 .simp[b];refine gh ?_;exactλj m h=>i j U (by rw[h];rfl)
theorem aee(a:mw H ck sr n M ow P Q)(c:n<=1000):Wf T 117 [.gf sr 0 1 0 n,.fn (.func 118) [] []] H (λd H'=>d = .b (decide (∃j,j<n/\(M j).l=0))/\H'=H):=by refine Yg JN ?_;simp[JN];refine gy.lr rfl rfl (aew a c) ?_;rintro _ H' ⟨v,rfl,rfl,b⟩;simp;simpa using b
theorem mw.anE(h:mw H ck sr n M ow P Q){v:Nat}(e:ow v=(5,0,0))(o:Ob):mw (H.set v o) ck sr n M ow P Q:=by
 have key:∀(w:Nat) (x:Ob),H[w]? = bb x->ow w≠(5,0,0)->(H.set v o)[w]? = bb x:=λw x d f=>jS;refine⟨h.fc,h.fs,key _ _ h.row (by rw[h.fs];simp),λj b=>?_,λj b t x c=>?_⟩
 .obtain⟨h1,a⟩:=h.mp j b;exact⟨key _ _ h1 (by rw[a];simp),a⟩
 .obtain⟨h1,a⟩:=h.ls j b t x c;exact⟨key _ _ h1 (by rw[a];simp),a⟩
end
@[simp] theorem art(cl:List gV):lE cl 0 = -1:=rfl
theorem ab1(cl:List gV){y:Int}(a:0<=y):lE cl (y+1).n=F7 cl (lE cl y.n) y:=by rw[(U:(y+1).n=y.n+1)];unfold lE;rw[Jl,List.foldl_append,(U:((y.n:Nat):Int)=y)];rfl
def LiV(N:Nat)(H:gd)(ls:List Int)(d:D):Prop:=d=dN 1 f1 ls\/(ls≠[]/\∃v g,d = .gf v g 1 0 ls.l/\H[v]? = bb (.row 3 g (cl f1 ls))/\N<=v)
def VD(N:Nat)(H:gd)(d:D):Jd->Prop
 | .v a ls=>∃x,d = .tup [.agg [.i a,x],.i 0]/\LiV N H ls x
 | .none=>d = .tup [.agg [.i 0,.gi],.i 270]
 | .vm=>d = .tup [.agg [.i 0,.gi],.i 180]
structure JP(g:gq)(l:List Pos)(nx:List (List Int))(dcl:D)(cm:List gV)(H H':gd)(ck:Nat)(J:Jd)(d:D):Prop where
 vd:VD H.l H' d J
 ok:jz H'.l H'
 kp:∀v o,H[v]? = bb o->v≠ck->H'[v]? = bb o
 ct:∃sr,H'[ck]? = bb (.row 168 0 (kq g l nx dcl (.gf sr 0 1 0 l.l)))/\(J = .none->∃ow P Q,mw H' ck sr l.l (λj:Nat=>gU cm (j:Int)) ow P Q/\∀v o,H[v]? = bb o->v≠ck->ow v=(5,0,0))
def Wb(g:gq)(hg:gR g)(l:List Pos)(B:lZ g l)(h0:0<l.l)(h9:l.l<=1000){H:gd}{ck:Nat}{L:List Cw}{old dcl:D}(hd:CV H ck L dcl)(gp:jz H.l H)
  (lR:H[ck]? = bb (.row 168 0 (kq g l (gE g l) dcl old))) (hL:∀x∈L,x.ok) (hb:∀x∈L,∀r∈x.c.es,r.2<=4000) (h8:L.l<=100000) :
  Wf T 64 [.ptr ck 0 0] H (λd H'=>JP g l (gE g l) dcl (cs L) H H' ck (nj (jv g l (gE g l)) l.l (jr l.l) (cs L)) d):=by
 have W:=wX L;have G4:=@agO (jv g l (gE g l)) l.l (jr l.l) (cs L);have R:=@agQ (jv g l (gE g l)) l.l (jr l.l) (cs L);have C:=@agR (jv g l (gE g l)) l.l (jr l.l) (cs L);have f:=@agP (jv g l (gE g l)) l.l (jr l.l) (cs L);obtain⟨J,hJ⟩:∃J,nj (jv g l (gE g l)) l.l (jr l.l) (cs L)=J:=⟨_,rfl⟩;rw[hJ]at G4 R C f ⊢;rw[W]at G4 R C f;have yv:jz (H ++ [Ob.row 89 0 [.i 0,.gi]]).l (H ++ [Ob.row 89 0 [.i 0,.gi]]):=IE gp rfl λo ho=>by rw[bs.1 ho];rfl
 have XJ:=jw lR;refine Yg JE ?_;simp[JE];refine gy.lr rfl rfl (aed (H:=H ++ [.row 89 0 [.i 0,.gi]]) (hd.app _) yv (iD lR) hL h8 h9 h0) ?_;rintro d H1 ⟨ow,P,Q,q⟩;obtain⟨m,h5⟩:=q.kp H.l (.row 89 0 [.i 0,.gi]) fZ U;obtain⟨bad,BL⟩:∃bad,km (λc => !jr l.l c) (cs L) L.l=bad:=⟨_,rfl⟩;rw[BL]at q G4 R C f;have S:=q.ct
 have O:H1[ck]? = bb (.row 168 0 [.i g.size,.sl 1 (g.next.map fI),dI g.jD,.sl 3 (g.kinds.map Kind.cells),.i g.gO,.b g.oQ,dN 4 Clause.cells g.clauses,.i g.blocked,.i g.vo,gP l,.sl 1 ((gE g l).map fN),dcl,.gf (H ++ [Ob.row 89 0 [.i 0,.gi]]).l 0 1 0 l.l]):=by rw[S];unfold kq;simp
 obtain⟨sr,b6⟩:∃sr,(H ++ [Ob.row 89 0 [.i 0,.gi]]).l=sr:=⟨_,rfl⟩;rw[b6]at q S O;have rW:∀v o,H[v]? = bb o->v≠ck->H1[v]? = bb o:=λv o N B=>(q.kp v o (iD N) B).1
 have Y:∀(x:Ob),nG H1.l x=dx->jz (H1.set H.l x).l (H1.set H.l x)/\(∀v o,H[v]? = bb o->v≠ck->(H1.set H.l x)[v]? = bb o)/\(H1.set H.l x)[ck]? = bb (.row 168 0 (kq g l (gE g l) dcl (.gf sr 0 1 0 l.l))):=λx b5=>by
  refine⟨by rw[aw];exact p5 q.ok b5,λv o N B=>?_,?_⟩
  .grind
  .grind
 rcases q.bd with⟨tI,rfl⟩|⟨BK,v,gn,rfl,vE,vF⟩
 .have BI:∀x∈L,jr l.l x.c=true:=λx M=>by
   have b:=BL;rw[tI,<-W,wg]at b
   cases e:jr l.l x.c with
   | true=>rfl
   | false=>exact absurd b (Cc.2 ⟨x.c,az.2 ⟨x,M,rfl⟩,by simp[e]⟩)
  have c4:hM (jr l.l) (cs L) L.l=λj:Nat=>gU (cs L) (j:Int):=funext λj=>by
   rw[<-W]
   exact afD (λc B=>by
    obtain⟨x,M,rfl⟩:=az.1 B
    exact BI x M) j
  have E:=q.sg;rw[c4]at E;have c6:=aee E h9;have qh:(kq g l (gE g l) dcl (.gf sr 0 1 0 l.l))[12]? = bb (.gf sr 0 1 0 l.l):=by unfold kq;simp
  have Q2:∀x∈L,x.full:=λx M=>⟨hL x M,λ_=>by
   have:=BI x M;unfold jr at this;rw[ai]at this
   exact(Pd this.1).2.2⟩
  have c':∀j:Int,0<=j->j<l.l->∀r∈sd (cs L) j,r.2<=4000:=λj _ _ r hr=>by obtain⟨c,B,h1,rfl⟩:=xx.1 hr;obtain⟨x,M,rfl⟩:=az.1 B;obtain⟨_,j0,j1⟩:=Cw.WW (Q2 x M) h1;exact hb x M _ (gF U j1)
  have R:=@R tI;have C:=@C tI;have f:=f tI;have X:∀j:Int,0<=j->gU (cs L) ((j.n:Nat):Int)=gU (cs L) j:=λj j0=>by rw[(U:((j.n:Nat):Int)=j)]
  have t:∀o,(H1.set H.l o)[H.l]? = bb o:=λo=>aN (jw m);simp[O];refine jT O ?_;refine gy.lr rfl rfl c6 ?_;rintro _ H' ⟨rfl,rfl⟩
  by_cases Z:∃j,j<l.l/\(gU (cs L) ((j:Nat):Int)).l=0
  .rw[decide_eq_true Z];obtain⟨j,hj,rU⟩:=Z;have V:=@R (j:Int) U U (No.1 rU);subst V;simp[m,t];refine kP m t ?_;obtain⟨f1,f2,f3⟩:=Y (.row 89 0 [.i 0,.gi]) rfl;exact⟨rfl,f1,f2,sr,f3,λh=>by cases h⟩
  .rw[decide_eq_false Z];have hs:∀j:Int,0<=j->j<l.l->sd (cs L) j≠[]:=λj j0 j1 h=>Z ⟨j.n,U,by rw[X j j0];exact No.2 h⟩;have C:=@C hs;have f:=f hs;have Xd:(cs L).l<=100000:=by rw[W];exact h8
   clear Z G4 R;simp[O];refine jT O ?_;refine gx.e (0:Int) (λy=>[(0,.ptr ck 0 0),(2,.ptr H.l 0 0),(27,.i l.l),(28,.i y)]) (λy=>H') (λy=>(0<=y/\y<=l.l)/\∀j:Int,0<=j->j<y->imp (cs L) j = []) (λy=>(l.l-y).n) ?_ ?_
   .grind
   rintro y ⟨⟨z,y1⟩,G2⟩;dsimp only at z y1 G2 ⊢
   by_cases p:y<l.l
   .have DB:=Qm (H:=H') E q.ok S qh Xd z U (X y z) (w:=λr => !nH r) λr dst s K _ k=>Yc (aeg r) k;obtain⟨I,G3⟩:∃I,imp (cs L) y=I:=⟨_,rfl⟩;have c5:km (λc=>mR c y && !nH (mb c y)) (cs L) (cs L).l=I:=G3;rw[c5]at DB;simp[p];refine gh ?_;refine gy.lr rfl rfl DB ?_;rintro _ H2 ⟨rfl,rfl⟩
    by_cases hz:I = []
    .have rh:∀j:Int,0<=j->j<y+1->imp (cs L) j = []:=λj j0 j1=>by grind
     subst hz;simp;refine gh ?_;refine LJ.i (y+1) fZ rfl rfl rfl ⟨U,iM,rh⟩
    .have V:=C z p (by rw[G3];exact hz) G2;rw[G3]at V;subst V;have ky:0<I.l:=ay.2 hz;simp[m,t,ky];refine nL m t ky ?_;obtain⟨f1,f2,f3⟩:=Y (.row 89 0 [.i y,dN 1 f1 I]) fZ;exact⟨⟨_,rfl,.inl rfl⟩,f1,f2,sr,f3,λh=>by cases h⟩
   have yz:y=l.l:=U;subst yz;have hp:∀j:Int,0<=j->j<l.l->∀r∈sd (cs L) j,nH r=true:=λj j0 j1=>imp_nil (G2 j j0 j1);have f:=f G2;clear C G2 z y1 p;simp[O];refine jT O ?_;have G:=E.row;refine gx.e (0:Int) (λy=>[(0,.ptr ck 0 0),(2,.ptr H.l 0 0),(7,.i (lE (cs L) y.n)),(44,.gf sr 0 1 0 l.l),(45,.i l.l),(46,.i y)]) (λy=>H') (λy=>0<=y/\y<=l.l) (λy=>(l.l-y).n) ?_ ?_
   .simp
   rintro y ⟨z,y1⟩;dsimp only at z y1 ⊢
   by_cases p:y<l.l
   .have A:y.n<l.l:=by omega
    have F:H'[P y.n]? = bb (.map KS (jd (Q y.n) 0 (gU (cs L) y))):=by have:=(E.mp y.n A).1;rw[X y z]at this;exact this
    have hS:=ab1 (cs L) z
    have ib:0<=lE (cs L) y.n->lE (cs L) y.n<l.l:=λh=>by have:=(US (n:=y.n) h).1;omega
    obtain⟨a,ha⟩:∃a,lE (cs L) y.n=a:=⟨_,rfl⟩;rw[ha]at hS ib ⊢;unfold F7 at hS
    by_cases h1:1<(gU (cs L) y).l
    .have XQ:=GU.1 h1
     by_cases b:a<0
     .rw[if_pos ⟨XQ,.inl b⟩]at hS;simp[p,G,A,F,h1,b];(with_reducible repeat' first|refine Xk ?_<;>try simp[p,G,A,F,h1,b]|refine Xs ?_ ?_<;>intro h<;>(try intro h')<;>(try simp[h,p,G,A,F,h1,b])<;>try omega|refine Xg ?_|omega);refine LJ.i (y+1) (by simp[hS]) rfl rfl rfl mF
     .have MD:=Qn (H:=H') E q.ok S qh z U (X y z) (hp y z p);have ME:=Qn (H:=H') E q.ok S qh (by omega:0<=a) (by have:=ib U;omega) (X a U) (hp a U (ib U));obtain⟨u,hu⟩:∃u,oB (sd (cs L) y)=u:=⟨_,rfl⟩;obtain⟨v,N⟩:∃v,oB (sd (cs L) a)=v:=⟨_,rfl⟩;rw[hu]at MD;rw[N]at ME;rw[hu,N]at hS;simp[p,G,A,F,h1,b];(with_reducible repeat' first|refine Xk ?_<;>try simp[p,G,A,F,h1,b]|refine Xs ?_ ?_<;>intro h<;>(try intro h')<;>(try simp[h,p,G,A,F,h1,b])<;>try omega|refine Xg ?_|omega);refine gy.lr rfl rfl MD ?_;rintro _ H2 ⟨rfl,rfl⟩;simp;refine gy.lr rfl rfl ME ?_;rintro _ H2 ⟨rfl,rfl⟩
      by_cases h3:u<v
      .rw[if_pos ⟨XQ,.inr h3⟩]at hS;simp[h3];refine jT h3 ?_;refine LJ.i (y+1) (by simp[hS]) rfl rfl rfl mF
      .rw[if_neg (λh=>by rcases h.2 with h|h<;>omega)]at hS;simp[h3];refine jT h3 ?_;refine LJ.i (y+1) (by simp[hS]) rfl rfl rfl mF
    .rw[if_neg (λh=>h1 (GU.2 h.1))]at hS;simp[p,G,A,F,h1];(with_reducible repeat' first|refine Xk ?_<;>try simp[p,G,A,F,h1]|refine Xs ?_ ?_<;>intro h<;>(try intro h')<;>(try simp[h,p,G,A,F,h1])<;>try omega|refine Xg ?_|omega);refine LJ.i (y+1) (by simp[hS]) rfl rfl rfl mF
   have yz:y=l.l:=U;subst yz;rw[bF];have hD:=@US (cs L) l.l;have Gd:=λi=>aei g hg l B rfl E q.ok S Xd (i:=i);obtain⟨a,ha⟩:∃a,lE (cs L) l.l=a:=⟨_,rfl⟩;rw[ha]at f hD ⊢
   by_cases b:a<0
   .rw[if_pos b]at f;subst f;simp[b,m,t];refine nL b m t ?_;obtain⟨f1,f2,f3⟩:=Y (.row 89 0 [.i 0,.gi]) rfl;exact⟨rfl,f1,f2,sr,f3,λ_=>⟨ow,P,Q,E.anE h5 _,λv o N B=>(q.kp v o (iD N) B).2⟩⟩
   .rw[if_neg b]at f;have hD:=hD U;have Gd:=Gd a U hD.1 (λj hj=>rfl) hp c' hs;rw[W]at Gd;obtain⟨I,G3⟩:∃I,km (tt (jv g l (gE g l)) (cs L) a) (cs L) L.l=I:=⟨_,rfl⟩;rw[G3]at Gd f;subst f;simp[b,m,t];refine nL b m t ?_;refine gy.lr rfl rfl Gd ?_;rintro _ H2 ⟨rfl,rfl⟩;simp[m,t];refine kP m t ?_;obtain⟨f1,f2,f3⟩:=Y (.row 89 0 [.i a,dN 1 f1 I]) fZ;exact⟨⟨_,rfl,.inl rfl⟩,f1,f2,sr,f3,λh=>by cases h⟩
 .have ky:0<bad.l:=ay.2 BK;have t:∀o,(H1.set H.l o)[H.l]? = bb o:=λo=>aN (jw m);have V:=G4 BK;subst V;have jg:=jw vE;obtain⟨f1,f2,f3⟩:=Y (.row 89 0 [.i (-1),.gf v gn 1 0 bad.l]) (by simp[jg]);simp[m,t];refine kP m t ?_
  have c3:H.l<=v:=by
   refine fo λgM=>?_
   by_cases e:v=ck
   .grind
   .have:=(q.kp v _ (iD (di gM)) e).2;rw[vF]at this;simp at this
  exact⟨⟨_,rfl,.inr ⟨BK,v,gn,rfl,by rw[aM (λe=>by rw[<-e,h5]at vF;simp at vF)];exact vE,c3⟩⟩,f1,f2,sr,f3,λh=>by cases h⟩
end Go.Proofs.YtmehofoficaelaaGreatDoor
namespace Go.Proofs.YtmehofoficaelaaGreatDoor
open Go Go.AL Classical
set_option maxRecDepth 10000
set_option maxHeartbeats 16000000
attribute [-simp] uK
def AT:Jd->D
 | .v a ls=>.tup [.agg [.i a,dN 1 f1 ls],.i 0]
 | .none=>.tup [.agg [.i 0,.gi],.i 270]
 | .vm=>.tup [.agg [.i 0,.gi],.i 180]
def ad4(g:gq)(hg:gR g)(l:List Pos)(n:lZ g l)(h0:0<l.l)(B:l.l<=1000){L:List Cw}{dcl:D}(m:dcl = .sl 36 (L.map iI)\/(L = []/\dcl = .gi))
  (A:∀x∈L,x.ok) (z:∀x∈L,∀r∈x.c.es,r.2<=4000) (C:L.l<=100000) :
  Wf T 75 [dG g,gP l,dcl] [] (Is (AT (nj (jv g l (gE g l)) l.l (jr l.l) (cs L)))):=by
 have cn:=f52 g hg l n h0
 have c:closed dcl=true:=by
  rcases m with rfl|⟨rfl,rfl⟩
  .exact xZ L
  .rfl
 have s:cellsOf dcl=bb [dcl]:=by
  rcases m with rfl|⟨rfl,rfl⟩
  .rfl
  .rfl
 have j:=λH ck old (gp:jz H.l H) w=>Wb g hg l n h0 B (H:=H) (ck:=ck) (old:=old) (m.elim .inl λh=>.inr (.inl h)) gp w A z C;obtain⟨J,p⟩:∃J,nj (jv g l (gE g l)) l.l (jr l.l) (cs L)=J:=⟨_,rfl⟩;rw[p]at j ⊢;obtain⟨nx,q⟩:∃nx,gE g l=nx:=⟨_,rfl⟩;rw[q]at cn j;refine Yg C1 ?_;simp[C1,c];refine gy.inl sR rfl rfl (by simp[sR]) rfl ?_;simp[sR,c];refine Yc (cn) ?_;simp[c,s];refine gy.w (by simp[c];rfl) ?_;refine gy.lr rfl rfl (j _ 2 .gi (by simp[c]) (by simp[kq])) ?_;rintro d H' hP;have h1:=hP.kp 1 (.row 89 0 [.i 0,.gi]) fZ jh;have k:=jw h1;have i:∀o,(H'.set 1 o)[1]? = bb o:=λo=>aN k
 have f:∀(o:Ob) (d:D),leave 0 0 (H'.set 1 o) d=(gw (λ_=>none) (H'.set 1 o) 40 d,[]):=λo d=>Of λe=>by have:=congrArg List.l e;rw[aw]at this;simp at this;rw[this]at k;simp at k
 clear j p
 cases J with
 | v a ls=>
  obtain⟨x,rfl,y⟩:=hP.vd;rcases y with rfl|⟨vP,v,gn,rfl,b,_⟩
  .simp[h1,i,f,AT]
  .have u:v≠1:=λe=>by rw[e,h1]at b;simp at b
   have t:∀o,(H'.set 1 o)[v]? = bb (.row 3 gn (cl f1 ls)):=λo=>by rw[aM (cz u)];exact b
   simp[h1,i,f,AT,t]
   cases ls with
   | nil=>exact absurd rfl vP
   | cons a r=>rfl
 | none=>
  have b:d=_:=hP.vd;subst b;simp[h1,i,f,AT]
 | vm=>
  have b:d=_:=hP.vd;subst b;simp[h1,i,f,AT]
end Go.Proofs.YtmehofoficaelaaGreatDoor
namespace Go.Proofs.YtmehofoficaelaaGreatDoor
open Go Go.AL Classical
def eS:Env:=[(11,.ptr 2 0 0),(12,.ptr 4 0 0)]
def tC(l:List Int)(k:Int):List Int:=l.take k.n++l.drop (k.n+1)
def ado{l:List Int}{k:Int}(k0:0<=k)(k1:k<l.l):(tC l k).l=l.l-1:=by unfold tC;rw[aq,aJ,aU];omega
structure LS(H0 H:gd)(q rv:Nat)(st:qz)(left ie:List Int)(ld:D):Prop where
 nu:H[2]? = bb (.row 37 0 [ld])
 vw:(ie = []/\ld = .gi)\/(ie≠[]/\∃v g,(4<v/\(v=q\/H0.l<=v))/\ld = .gf v g 1 0 ie.l/\H[v]? = bb (.row 3 g (cl f1 ie)))
 arr:∃zs,gK zs=dx/\H[3]? = bb (.row 3 0 (cl f1 left++zs))
 nv:H[4]? = bb (.row 37 0 [.gf 3 0 1 0 left.l])
 ok:jz H.l H
 CG:4<rv
 rc:H[rv]? = bb (.iu 1280 eS st)
 kp:∀w o,H0[w]? = bb o->(4<w\/w<=1)->w≠rv->w≠q->H[w]? = bb o
 le:H0.l<=H.l
section
variable{H0 H:gd}{q rv:Nat}{st:qz}{left ie:List Int}{ld:D}
theorem LS.len(h:LS H0 H q rv st left ie ld):4<H.l:=jw h.nv
theorem LS.TD(h:LS H0 H q rv st left ie ld)(st':qz):LS H0 (H.set rv (.iu 1280 eS st')) q rv st' left ie ld:=by
 have key:∀ {w:Nat} {o:Ob},H[w]? = bb o->w≠rv->(H.set rv (.iu 1280 eS st'))[w]? = bb o:=λf j=>by rw[aM (cz j)];exact f
 have i:=h.CG;refine⟨key h.nu U,?_,?_,key h.nv U,?_,i,aN (jw h.rc),λw o h1 c b a=>key (h.kp w o h1 c b a) b,by rw[aw];exact h.le⟩
 .rcases h.vw with h1|⟨h1,v,g,c,b,a⟩
  .exact .inl h1
  .exact .inr ⟨h1,v,g,c,b,key a λe=>by rw[e,h.rc]at a;cases a⟩
 .obtain⟨zs,d,h1⟩:=h.arr;exact⟨zs,d,key h1 U⟩
 .rw[aw];refine p5 h.ok ?_;have:=h.len;show((jG H.l (.ptr 2 0 0))&&((jG H.l (.ptr 4 0 0))&&dx))=dx;simp;omega
theorem LS.more(h:LS H0 H q rv st left ie ld){o:Ob}(f:nG (H.l+1) o=dx):LS H0 (H ++ [o]) q rv st left ie ld:=by
 refine⟨iD h.nu,?_,?_,iD h.nv,?_,h.CG,iD h.rc,λw o h1 c b a=>iD (h.kp w o h1 c b a),by rw[aq];have:=h.le;omega⟩
 .rcases h.vw with h1|⟨h1,v,g,c,b,a⟩
  .exact .inl h1
  .grind
 .obtain⟨zs,d,h1⟩:=h.arr;exact⟨zs,d,iD h1⟩
 .rw[aq,bj];refine ui (xy U h.ok) λx e=>?_;rw[bs.1 e];exact f
theorem LS.amA(h:LS H0 H q rv st left [] .gi)(x:Int):LS H0 ((H.set 2 (.row 37 0 [.gf H.l 0 1 0 1])) ++ [.row 3 0 (cl f1 [x])]) q rv st left [x] (.gf H.l 0 1 0 1):=by
 have hl:=h.len;have b:=h.CG;have key:∀ {w:Nat} {o:Ob},H[w]? = bb o->w≠2->((H.set 2 (.row 37 0 [.gf H.l 0 1 0 1])) ++ [.row 3 0 (cl f1 [x])])[w]? = bb o:=λg i=>jS;refine⟨?_,.inr ⟨fZ,H.l,0,⟨hl,.inr h.le⟩,rfl,?_⟩,?_,key h.nv U,?_,b,key h.rc U,λw o h1 e d c=>key (h.kp w o h1 e d c) U,by rw[aq,aw];have:=h.le;omega⟩
 .grind
 .grind
 .obtain⟨zs,a,h1⟩:=h.arr;exact⟨zs,a,key h1 U⟩
 .rw[aq,aw,bj];refine ui (p5 (xy U h.ok) ?_) λy f=>?_
  .simp_all
  .simp_all
theorem LS.amB{v g:Nat}(a:v=q\/H0.l<=v)(h:LS H0 H q rv st left ie (.gf v g 1 0 ie.l))(hl:ie≠[])(m:4<v)(b:H[v]? = bb (.row 3 g (cl f1 ie)))(x:Int) :
  LS H0 ((H.set v (.row 3 (g+1) (cl f1 (ie ++ [x])))).set 2 (.row 37 0 [.gf v (g+1) 1 0 (ie.l+1)])) q rv st left (ie ++ [x]) (.gf v (g+1) 1 0 (ie.l+1)):=by
 have i:=h.CG;have d:=jw b;have c:rv≠v:=λe=>by rw[<-e,h.rc]at b;cases b
 have key:∀ {w:Nat} {o:Ob},H[w]? = bb o->w≠2->w≠v->((H.set v (.row 3 (g+1) (cl f1 (ie ++ [x])))).set 2 (.row 37 0 [.gf v (g+1) 1 0 (ie.l+1)]))[w]? = bb o:=λn p r=>jS;refine⟨aN (by rw[aw];have:=h.len;omega),.inr ⟨fZ,v,g+1,⟨m,a⟩,fZ,?_⟩,?_,key h.nv U U,?_,i,key h.rc U c,λw o h1 l k j=>key (h.kp w o h1 l k j) U λe=>?_,by rw[aw,aw];exact h.le⟩
 .grind
 .obtain⟨zs,f,h1⟩:=h.arr;exact⟨zs,f,key h1 U U⟩
 .rw[aw,aw];refine p5 (p5 h.ok (AA _)) ?_;show((jG H.l (.gf v (g+1) 1 0 (ie.l+1)))&&dx)=dx;simp[d]
 .rcases a with a|a
  .omega
  .have:=jw h1;omega
theorem LS.del(h:LS H0 H q rv st left ie ld){zs:List D}(b:gK zs=dx)(m:H[3]? = bb (.row 3 0 (cl f1 left++zs))){k:Int}(k0:0<=k)(k1:k<left.l) :
  LS H0 ((H.set 3 (.row 3 0 (cl f1 (tC left k) ++ .i 0::zs))).set 4 (.row 37 0 [.gf 3 0 1 0 (left.l-1)])) q rv st (tC left k) ie ld:=by
 have i:=h.CG;have hl:=h.len;have key:∀ {w:Nat} {o:Ob},H[w]? = bb o->w≠3->w≠4->((H.set 3 (.row 3 0 (cl f1 (tC left k) ++ .i 0::zs))).set 4 (.row 37 0 [.gf 3 0 1 0 (left.l-1)]))[w]? = bb o:=λj l n=>jS;refine⟨key h.nu U U,?_,⟨.i 0::zs,by simpa[gK]using b,?_⟩,?_,?_,i,key h.rc U U,λw o h1 f e c=>key (h.kp w o h1 f e c) U U,by rw[aw,aw];exact h.le⟩
 .rcases h.vw with h1|⟨h1,v,g,f,e,c⟩
  .exact .inl h1
  .grind
 .grind
 .rw[aN (by rw[aw];omega),ado k0 k1]
 .rw[aw,aw];refine p5 (p5 h.ok ?_) ?_
  .refine dr.2 λd a=>?_;rcases aj.1 a with a|a
   .exact CJ (lP (sw _) d a)
   .rcases av.1 a with rfl|a
    .rfl
    .exact CJ (lP b d a)
  .show((jG H.l (.gf 3 0 1 0 (left.l-1)))&&dx)=dx;simp;omega
