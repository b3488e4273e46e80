/- Part 40 of DisputeTruth. -/
import Derived.Test.YtmehofoficaelaaGreatDoorV39
set_option linter.all false
namespace Go.Proofs.YtmehofoficaelaaGreatDoor
open Go Go.AL Classical
def oset(ow:Nat->Nat×Nat×Nat)(v:Nat)(a:Nat×Nat×Nat):Nat->Nat×Nat×Nat:=λw=>if w=v then a else ow w
theorem ZK(ow:Nat->Nat×Nat×Nat)(v:Nat)(a:Nat×Nat×Nat):oset ow v a v=a:=if_pos rfl
theorem BV{ow:Nat->Nat×Nat×Nat}{v w:Nat}{a:Nat×Nat×Nat}(h:w≠v):oset ow v a w=ow w:=if_neg h
theorem jj{H:U}{v:Nat}{o:Ob}(h:H[v]? = some o):v<H.length:=(ae.1 h).1
theorem ig{H G:U}{v:Nat}{o:Ob}(h:H[v]? = some o):(H++G)[v]? = some o:=by rw[ah (jj h)];exact h
theorem l8.own{H:U}{ck sr n:Nat}{M:Nat->jY}{ow:Nat->Nat×Nat×Nat}{P:Nat->Nat}{Q:Nat->Nat->Nat}(h:l8 H ck sr n M ow P Q){v:Nat}(g:H.length<=v)(f:ck<v)(a:Nat×Nat×Nat):l8 H ck sr n M (oset ow v a) P Q:=by
 have ne:∀ {w o},H[w]? = some o->w≠v:=λe=>by have:=jj e;omega
 refine⟨?_,?_,h.row,λj b=>?_,λj b t x d=>?_⟩
 .rw[BV (by omega)];exact h.fc
 .rw[BV (ne h.row)];exact h.fs
 .obtain⟨h1,c⟩:=h.mp j b;exact⟨h1,by rw[BV (ne h1)];exact c⟩
 .obtain⟨h1,c⟩:=h.ls j b t x d;exact⟨h1,by rw[BV (ne h1)];exact c⟩
def abk(Hc:U)(ow:Nat->Nat×Nat×Nat)(bad:List Int)(d:D):Prop:=
 (bad = []/\d = .fX)\/(bad≠[]/\∃v g,d = .fM v g 1 0 bad.length/\Hc[v]? = some (.row 3 g (cl f1 bad))/\ow v=(4,0,0))
structure HI(H0 Hc:U)(ck sr n:Nat)(C:Ob)(M:Nat->jY)(bad:List Int)(d:D)(b:Option (Nat×Ob))(ow:Nat->Nat×Nat×Nat)(P:Nat->Nat)(Q:Nat->Nat->Nat):Prop where
 sg:l8 Hc ck sr n M ow P Q
 ct:Hc[ck]? = some C
 ok:jl Hc.length Hc
 lt:ck<H0.length
 kp:∀v o,H0[v]? = some o->v≠ck->Hc[v]? = some o/\ow v=(5,0,0)
 bd:abk Hc ow bad d
 bx:∀p,b=some p->Hc[p.1]? = some p.2/\ow p.1=(6,0,0)
section
variable{H0 Hc:U}{ck sr n:Nat}{C:Ob}{M:Nat->jY}{bad:List Int}{d:D}{b:Option (Nat×Ob)}{ow:Nat->Nat×Nat×Nat}{P:Nat->Nat}{Q:Nat->Nat->Nat}
theorem HI.more(h:HI H0 Hc ck sr n C M bad d b ow P Q){o:Ob}(l:mT (Hc.length+1) o=true)(a:Nat×Nat×Nat):HI H0 (Hc ++ [o]) ck sr n C M bad d b (oset ow Hc.length a) P Q:=by
 have ne:∀ {w o},Hc[w]? = some o->w≠Hc.length:=λj=>by have:=jj j;omega
 refine⟨(h.sg.own (Nat.le_refl _) (jj h.ct) a).mono λv o e _=>ig e,ig h.ct,?_,h.lt,λv o e m=>?_,?_,λp k=>?_⟩
 .rw[aj,aV];refine tN (wZ (by omega) h.ok) λx i=>?_;rw[List.mem_singleton.1 i];exact l
 .obtain⟨h1,c⟩:=h.kp v o e m;exact⟨ig h1,by rw[BV (ne h1)];exact c⟩
 .rcases h.bd with h1|⟨h1,v,g,c,f,q⟩
  .exact .inl h1
  .exact .inr ⟨h1,v,g,c,ig f,by rw[BV (ne f)];exact q⟩
 .obtain⟨h1,c⟩:=h.bx p k;exact⟨ig h1,by rw[BV (ne h1)];exact c⟩
theorem HI.box(h:HI H0 Hc ck sr n C M bad d b ow P Q){o:Ob}(c:mT (Hc.length+1) o=true):HI H0 (Hc ++ [o]) ck sr n C M bad d (some (Hc.length,o)) (oset ow Hc.length (6,0,0)) P Q:=by
 have h1:=h.more c (6,0,0)
 exact⟨h1.sg,h1.ct,h1.ok,h1.lt,h1.kp,h1.bd,λp a=>by
  cases a
  exact⟨by rw[ai (by omega),bV];rfl,ZK _ _ _⟩⟩
theorem HI.nob(h:HI H0 Hc ck sr n C M bad d b ow P Q):HI H0 Hc ck sr n C M bad d none ow P Q:=⟨h.sg,h.ct,h.ok,h.lt,h.kp,h.bd,λ_ a=>by cases a⟩
theorem HI.UD(h:HI H0 Hc ck sr n C M [] .fX b ow P Q)(k:Int):∃a,HI H0 (Hc ++ [qp [k]]) ck sr n C M [k] (.fM Hc.length 0 1 0 1) b a P Q:=by have h1:=h.more (o:=qp [k]) (by unfold qp;exact ym _) (4,0,0);exact⟨_,h1.sg,h1.ct,h1.ok,h1.lt,h1.kp,.inr ⟨by simp,_,_,rfl,by rw[ai (by omega),bV];rfl,ZK _ _ _⟩,h1.bx⟩
theorem HI.UE{v g:Nat}{k:Int}(h:HI H0 Hc ck sr n C M bad (.fM v g 1 0 bad.length) b ow P Q)(r:bad≠[])(f:Hc[v]? = some (.row 3 g (cl f1 bad)))(l:ow v=(4,0,0)) :
  HI H0 (Hc.set v (.row 3 (g+1) (cl f1 (bad ++ [k])))) ck sr n C M (bad ++ [k]) (.fM v (g+1) 1 0 (bad.length+1)) b ow P Q:=by
 have hl:=jj f;have key:∀w o,Hc[w]? = some o->ow w≠(4,0,0)->(Hc.set v (.row 3 (g+1) (cl f1 (bad ++ [k]))))[w]? = some o:=λw o d q=>by grind
 refine⟨?_,key _ _ h.ct (by rw[h.sg.fc];simp),?_,h.lt,λw o d m=>?_,.inr ⟨by simp,v,g+1,by simp,by rw[aL hl],l⟩,λp i=>?_⟩
 .refine⟨h.sg.fc,h.sg.fs,key _ _ h.sg.row (by rw[h.sg.fs];simp),λj c=>?_,λj c t x e=>?_⟩
  .obtain⟨h1,a⟩:=h.sg.mp j c;exact⟨key _ _ h1 (by rw[a];simp),a⟩
  .obtain⟨h1,a⟩:=h.sg.ls j c t x e;exact⟨key _ _ h1 (by rw[a];simp),a⟩
 .rw[ar];exact pG h.ok (ym _)
 .obtain⟨h1,a⟩:=h.kp w o d m;exact⟨key _ _ h1 (by rw[a];simp),a⟩
 .obtain⟨h1,a⟩:=h.bx p i;exact⟨key _ _ h1 (by rw[a];simp),a⟩
theorem HI.rest{f:U}{k:Nat->jY}{j:Nat->Nat×Nat×Nat}{Q':Nat->Nat->Nat}(h:HI H0 Hc ck sr n C M bad d b ow P Q)(hs:l8 f ck sr n k j P Q')(fV:jl f.length f)
  (i:∀v o,Hc[v]? = some o->ow v=(0,0,0)\/ow v=(4,0,0)\/ow v=(5,0,0)\/ow v=(6,0,0)->f[v]? = some o/\j v=ow v):HI H0 f ck sr n C k bad d b j P Q':=by
 refine⟨hs,(i _ _ h.ct (.inl h.sg.fc)).1,fV,h.lt,λw o l q=>?_,?_,λp m=>?_⟩
 .obtain⟨h1,a⟩:=h.kp w o l q;obtain⟨e,c⟩:=i _ _ h1 (.inr (.inr (.inl a)));exact⟨e,c.trans a⟩
 .rcases h.bd with h1|⟨h1,v,g,a,e,c⟩
  .exact .inl h1
  .obtain⟨s,r⟩:=i _ _ e (.inr (.inl c));exact .inr ⟨h1,v,g,a,s,r.trans c⟩
 .obtain⟨h1,a⟩:=h.bx p m;obtain⟨e,c⟩:=i _ _ h1 (.inr (.inr (.inr a)));exact⟨e,c.trans a⟩
theorem HI.old(h:HI H0 Hc ck sr n C M bad d b ow P Q){j t:Nat}{r:fO}{x:List Int}{k:Int}(f:j<n)(i:nQ r (M j)=some (t,x)) :
  HI H0 ((Hc.set (Q j t) (qp (x ++ [k]))).set (P j) (.map KS ((iM (Q j) 0 (M j)).set t (lj r,oI (Q j t) (x ++ [k]))))) ck sr n C (vU M j (nP r k (M j))) bad d b ow P Q:=by
 obtain⟨q,_⟩:=zb (k:=k) i;obtain⟨m,g⟩:=h.sg.mp j f;obtain⟨q1,q2⟩:=h.sg.ls j f t _ q;have s:P j≠Q j t:=λe=>by rw[e,q2]at g;simp at g
 have key:∀v o,Hc[v]? = some o->v≠P j->v≠Q j t->((Hc.set (Q j t) (qp (x ++ [k]))).set (P j) (.map KS ((iM (Q j) 0 (M j)).set t (lj r,oI (Q j t) (x ++ [k])))))[v]? = some o:=λv o a h1 l=>by grind
 refine h.rest (h.sg.old f i ?_ ?_ λv o a h1 l _=>key v o a h1 l) ?_ λv o a u=>⟨key v o a (λe=>?_) (λe=>?_),rfl⟩
 .grind
 .grind
 .rw[ar,ar];refine pG (pG h.ok (by unfold qp;exact ym _)) ?_;have p:=h.ok _ (List.mem_of_getElem? m);refine List.all_eq_true.2 λy c=>?_;rcases dD c with c|rfl
  .exact List.all_eq_true.1 p y c
  .show decide (Q j t<Hc.length)=true;exact decide_eq_true (jj q1)
 .grind
 .grind
theorem HI.new(h:HI H0 Hc ck sr n C M bad d b ow P Q){j:Nat}{r:fO}{k:Int}(l:j<n)(p:nQ r (M j)=none) :
  ∃c Q',HI H0 ((Hc.set (P j) (.map KS (iM (Q j) 0 (M j) ++ [(lj r,oI Hc.length [k])]))) ++ [qp [k]]) ck sr n C (vU M j (nP r k (M j))) bad d b c P Q'/\∀w,w<Hc.length->c w=ow w:=by
 obtain⟨g,s⟩:=h.sg.mp j l;have key:∀v o,Hc[v]? = some o->v≠P j->((Hc.set (P j) (.map KS (iM (Q j) 0 (M j) ++ [(lj r,oI Hc.length [k])]))) ++ [qp [k]])[v]? = some o:=λv o i h1=>by grind
 obtain⟨c,Q',hs,f⟩:=h.sg.new (H':=(Hc.set (P j) (.map KS (iM (Q j) 0 (M j) ++ [(lj r,oI Hc.length [k])]))) ++ [qp [k]]) (v:=Hc.length) (k:=k) l p (jj h.ct) (Nat.le_refl _)
  (by rw[ah (by rw[ar];exact jj g),aL (jj g)]) (by rw[ai (by rw[ar];omega),ar,bV];rfl) λw o f h1 _=>key w o f h1
 refine⟨c,Q',h.rest hs ?_ λv o i t=>⟨key v o i λe=>?_,f v (by have:=jj i;omega)⟩,λw hl=>f w (by omega)⟩
 .rw[aj,ar,aV];refine tN (pG (wZ (by omega) h.ok) ?_) λx m=>?_
  .have q:=h.ok _ (List.mem_of_getElem? g);refine List.all_eq_true.2 λy a=>?_;rcases List.mem_append.1 a with a|a
   .exact Er (by omega) (List.all_eq_true.1 q y a)
   .rw[List.mem_singleton.1 a];show decide (Hc.length<Hc.length+1)=true;exact decide_eq_true (by omega)
  .rw[List.mem_singleton.1 m];unfold qp;exact ym _
 .grind
end
def pa(b n k:Nat):List D:=(List.range n).map λj=>if j<k then D.gx (b+(j+1))else .val (.map none)
theorem amV(b n:Nat):pa b n 0=List.replicate n (.val (.map none)):=by unfold pa;refine bC (by simp) λi h1 a=>by simp
theorem aas(b n k:Nat):(pa b n k).length=n:=by simp[pa]
theorem amW(b n:Nat):pa b n n=(List.range n).map λj=>D.gx (b+(j+1)):=by unfold pa;refine au λj a=>?_;rw[bj]at a;rw[if_pos a]
theorem amX{b n k:Nat}(h:k<n):(pa b n k).take k ++ .gx (b+(k+1))::(pa b n k).drop (k+1)=pa b n (k+1):=by
 refine bT λi=>?_;have hl:((pa b n k).take k).length=k:=by rw[aK,aas];omega
 by_cases h1:i<k
 .rw[ah (by omega),List.getElem?_take_of_lt h1];unfold pa;rw[av,av,bJ (by omega)];simp only[aG];rw[if_pos h1,if_pos (by omega)]
 .rw[ai (by omega),hl]
  by_cases a:i=k
  .subst a;rw[bV,fr];unfold pa;rw[av,bJ h];simp only[aG];rw[if_pos (by omega)]
  .rw[show i-k=(i-k-1)+1 by omega,db,aI,show k+1+(i-k-1)=i by omega];unfold pa;rw[av,av]
   by_cases c:i<n
   .grind
   .grind
theorem HI.start{H:U}{ck n:Nat}{o C:Ob}(fV:jl H.length H)(e:H[ck]? = some o)(g:mT (H.length+1) C=true) :
  ∃ow P Q,HI H (H.set ck C++(.row 170 0 (pa H.length n n)::List.replicate n (.map KS []))) ck H.length n C (λ_=>[]) [] .fX none ow P Q:=by
 have hl:=jj e;have h:∀j,j<n->(H.set ck C++(.row 170 0 (pa H.length n n)::List.replicate n (.map KS [])))[H.length+(j+1)]? = some (.map KS []):=λj a=>by grind
 refine⟨λv=>if v=ck then(0,0,0)else if v<H.length then(5,0,0)else if v=H.length then(1,0,0)else(2,v-H.length-1,0),λj=>H.length+(j+1),λ_ _=>0,⟨?_,?_,?_,λj a=>?_,λj a t x b=>?_⟩,?_,?_,hl,λv x i k=>⟨?_,?_⟩,.inl ⟨rfl,rfl⟩,λp f=>by cases f⟩
 .grind
 .grind
 .rw[ai (by rw[ar];omega),ar,bV,fr,amW]
 .refine⟨h j a,?_⟩;rw[if_neg (by omega),if_neg (by omega),if_neg (by omega)];congr 2;omega
 .cases b
 .grind
 .rw[aj,ar,aH,ey];refine tN (pG (wZ (by omega) fV) (Zu (by omega) g)) λx b=>?_;rcases aw.1 b with rfl|b
  .refine List.all_eq_true.2 λd c=>?_;unfold pa at c;obtain⟨j,a,rfl⟩:=ao.1 c;rw[bj]at a;rw[if_pos a];exact decide_eq_true (by omega)
  .simp_all
 .grind
 .grind
end Go.Proofs.YtmehofoficaelaaGreatDoor
namespace Go.Proofs.YtmehofoficaelaaGreatDoor
open Go Go.AL Classical
set_option maxRecDepth 10000
set_option maxHeartbeats 16000000
theorem agb{p:gA->Bool}{L:List Cw}{k:Int}(k0:0<=k)(a:k<L.length):jX p (cs L) (k+1).toNat=if p (gt L k).c=true then jX p (cs L) k.toNat ++ [k]else jX p (cs L) k.toNat:=by
 have b:gt (cs L) k=(gt L k).c:=by unfold cs;rw[jb k0 (by rw[List.length_map];exact a),jb k0 a,List.getElem_map]
 rw[show(k+1).toNat=k.toNat+1 by omega,jX,show((k.toNat:Nat):Int)=k by omega,b]
theorem wx(L:List Cw):(cs L).length=L.length:=by simp[cs]
theorem UB{cl:List gA}{n:Nat}(h:0<=kT cl n):kT cl n<n/\mu (sd cl (kT cl n))=true:=by
 rcases Fj cl n with⟨h1,_⟩|⟨h1,a,_⟩
 .omega
 .exact⟨h1.2,a⟩
end Go.Proofs.YtmehofoficaelaaGreatDoor
namespace Go.Proofs.YtmehofoficaelaaGreatDoor
open Go Go.AL Classical
set_option maxRecDepth 10000
set_option maxHeartbeats 16000000
attribute [-simp] s7
def ke(g:fY)(l:List Pos)(nx:List (List Int))(dcl sd:D):List D:=g.cells ++ [gQ l,.sl 1 (nx.map fN),dcl,sd]
theorem sk{H:U}{v:Nat}{o:Ob}(h:H[v]? = some o):H.set v o=H:=by obtain⟨h1,a⟩:=ae.1 h;rw[<-a,et]
theorem aeR{p:gA->Bool}{s:gA->fO}{cl:List gA}{n t:Nat}{r:fO}{x:List Int}(h:nQ r (oW p s cl n)=some (t,x)):x.length<=n:=by obtain⟨h1,_⟩:=zb (k:=0) h;rw[(Qa (List.mem_of_getElem? h1)).1];exact zV _ _ ((D3 _ _ _).imp λh e=>by omega) λk a=>(zO.1 a).1
theorem aeS{p:gA->Bool}{s:gA->fO}{cl:List gA}{n t:Nat}{r:fO}{x:List Int}(h:nQ r (oW p s cl n)=some (t,x)):x≠[]:=by obtain⟨h1,_⟩:=zb (k:=0) h;exact(Qa (List.mem_of_getElem? h1)).2
theorem Qd{L:List Cw}{k:Int}(k0:0<=k)(a:k<L.length):gt (cs L) k=(gt L k).c:=by unfold cs;rw[jb k0 (by rw[List.length_map];exact a),jb k0 a,List.getElem_map]
theorem zX{n t g:Nat}{cs:List D}(h:gw cs=true):mT n (.row t g cs)=true:=List.all_eq_true.2 λd a=>Ag (lH h d a)
def CV(H:U)(ck:Nat)(L:List Cw)(dcl:D):Prop:=
 dcl = .sl 36 (L.map gT)\/(L = []/\dcl = .fX)\/∃v g,v≠ck/\dcl = .fM v g 36 0 L.length/\H[v]? = some (.row 72 g (cl gT L))
theorem CV.len{H:U}{ck:Nat}{L:List Cw}{dcl:D}(h:CV H ck L dcl)(H':U):mK .slice dcl H'=some (.i L.length):=by
 rcases h with rfl|⟨rfl,rfl⟩|⟨v,g,_,rfl,_⟩
 .simp
 .rfl
 .simp
theorem CV.ix{H:U}{ck:Nat}{L:List Cw}{dcl:D}(h:CV H ck L dcl){k:Int}(k0:0<=k)(a:k<L.length) :
  ∃p,mB 36 dcl (.i k)=some p/\∀H':U,(∀(v:Nat) (o:Ob),H[v]? = some o->v≠ck->H'[v]? = some o)->vI 36 p H'=some (.agg ((gT (gt L k)).take 36)):=by
 have b:(gT (gt L k)).length=36:=Fl.len _;rcases h with rfl|⟨rfl,rfl⟩|⟨v,g,hc,rfl,hv⟩
 .refine⟨.gi (gT (gt L k)),?_,λH' _=>?_⟩
  .unfold mB;dsimp only;rw[if_pos ⟨rfl,k0,by rw[List.length_map];exact a⟩,jb k0 a];simp[List.getD,List.getElem?_eq_getElem (show k.toNat<L.length by omega)]
  .simp[b]
 .simp at a;omega
 .refine⟨.ptr v g (k.toNat*36),?_,λH' c=>?_⟩
  .simp[k0,a]
  .have:=c v _ hv hc;have d:k.toNat<L.length:=by omega
   simp[this,d,b]
theorem CV.app{H:U}{ck:Nat}{L:List Cw}{dcl:D}(h:CV H ck L dcl)(G:U):CV (H++G) ck L dcl:=by
 rcases h with h|h|⟨v,g,b,e,a⟩
 .exact .inl h
 .exact .inr (.inl h)
 .exact .inr (.inr ⟨v,g,b,e,ig a⟩)
theorem adF{H:U}{ck:Nat}{g:fY}{l:List Pos}{nx:List (List Int)}{L:List Cw}{old dcl:D}(hd:CV H ck L dcl)(fV:jl H.length H)(J:H[ck]? = some (.row 168 0 (ke g l nx dcl old)))(hL:∀x∈L,x.ok)(h8:L.length<=100000)(h9:l.length<=1000)(h0:0<l.length) :
  Wf T 116 [.ptr ck 0 0] H (λd H'=>∃ow P Q,HI H H' ck H.length l.length (.row 168 0 (ke g l nx dcl (.fM H.length 0 1 0 l.length))) (hM (iY l.length) (cs L) L.length) (jX (λc => !iY l.length c) (cs L) L.length) d none ow P Q):=by
 have rW:=jj J;have uq:=hd.len;have jg:jm (H.length+1) dcl=true:=Er (by omega) (List.all_eq_true.1 (fV _ (List.mem_of_getElem? J)) dcl (by unfold ke;simp));have hG:GH H ck:=⟨rW,fV⟩;have nH:∀R o,(H++R).set ck o=H.set ck o++R:=λR o=>aO _ _ rW;have tm:∀R:U,(H++R)[ck]? = some (.row 168 0 (ke g l nx dcl old)):=λR=>ig J;have hz:=amV H.length l.length;obtain⟨C,hC⟩:∃C,Ob.row 168 0 (ke g l nx dcl (.fM H.length 0 1 0 l.length))=C:=⟨_,rfl⟩
 have g2:mT (H.length+1) C=true:=by rw[<-hC];unfold ke;simp[jg]
 have gh:=HI.start (n:=l.length) fV J g2;rw[hC];have De:C = .row 168 0 (g.cells ++ [gQ l,.sl 1 (nx.map fN),dcl,.fM H.length 0 1 0 l.length]):=hC.symm;have Df:∀sd,(Ob.row 168 0 [.i g.size,.sl 1 (g.next.map fI),dI g.jn,.sl 3 (g.kinds.map Kind.cells),.i g.gD,.b g.oi,dN 4 Clause.cells g.clauses,.i g.blocked,.i g.uY,gQ l,.sl 1 (nx.map fN),dcl,sd]) = .row 168 0 (ke g l nx dcl sd):=λsd=>by unfold ke;simp
 have V:∀(o:Ob) (R:U),(H.set ck o++R)[ck]? = some o:=λo R=>hG.ig;have M4:∀(o:Ob) (R:U),(H.set ck o++R)[H.length]? = R[0]? := λo R=>hG.aeP;have qg:∀(o o':Ob) (R:U),(H.set ck o++R).set H.length o'=H.set ck o++R.set 0 o':=λo o' R=>hG.anb;refine Yg Ja ?_;simp[Ja,J,tm,nH,ke,<-hz,V];(with_reducible repeat' first|refine Xk ?_<;>try simp[J,tm,nH,ke,<-hz,V]|refine Xs ?_ ?_<;>intro h<;>(try intro Y)<;>(try simp[h,J,tm,nH,ke,<-hz,V])<;>try omega|refine Xg ?_|omega);refine fZ.s (by simp[tm,nH,ke];rfl) ?_;rw[Df,hC];refine fZ.e (0:Int) (λy=>[(0,.ptr ck 0 0),(3,.fX),(23,.i l.length),(24,.i y)]) (λy=>H.set ck C++(.row 170 0 (pa H.length l.length y.toNat)::List.replicate y.toNat (.map KS []))) (λy=>0<=y/\y<=l.length) (λy=>(l.length-y).toNat) ?_ ?_
 .simp
 rintro y ⟨y0,y1⟩;dsimp only at y0 y1 ⊢
 by_cases hy:y<l.length
 .have uz:=amX (b:=H.length) (n:=l.length) (k:=y.toNat) (by omega);have iu:=aas H.length l.length y.toNat;simp[hy,V,M4,qg,De,iu];(with_reducible repeat' first|refine Xk ?_<;>try simp[hy,V,M4,qg,De,iu]|refine Xs ?_ ?_<;>intro h<;>(try intro Y)<;>(try simp[h,hy,V,M4,qg,De,iu])<;>try omega|refine Xg ?_|omega)
  have e6:pt (pa H.length l.length y.toNat) y (.gx (H.length+(y.toNat+1)))=pa H.length l.length (y.toNat+1):=by rw[<-uz];unfold pt;simp[show(y+1).toNat=y.toNat+1 by omega]
  refine LJ.i (y+1) (by simp) ?_ rfl rfl l4;rw[e6,Df,hC,show(y+1).toNat=y.toNat+1 by omega,eC];rfl
 have x4:y=l.length:=by omega
 subst x4;obtain⟨ow,P,Q,a⟩:=gh;rw[bF];obtain⟨H1,A4⟩:∃H1,H.set ck C++(.row 170 0 (pa H.length l.length l.length)::List.replicate l.length (.map KS []))=H1:=⟨_,rfl⟩;rw[A4]at a ⊢;have A:=a.ct;rw[De]at A;clear A4 V M4 qg hy y0 y1;simp[A,uq];refine kM A uq ?_;refine fZ.e ((H1,0,[],.fX):U×Int×List Int×D) (λy=>[(0,.ptr ck 0 0),(3,y.2.2.2),(38,dcl),(39,.i L.length),(40,.i y.2.1)]) (λy=>y.1) (λy=>(0<=y.2.1/\y.2.1<=L.length)/\y.2.2.1=jX (λc => !iY l.length c) (cs L) y.2.1.toNat/\y.2.2.1.length<=y.2.1.toNat/\∃ow P Q,HI H y.1 ck H.length l.length C (hM (iY l.length) (cs L) y.2.1.toNat) y.2.2.1 y.2.2.2 none ow P Q) (λy=>(L.length-y.2.1).toNat) ?_ ?_
 .exact⟨by simp,rfl,by simp,ow,P,Q,a⟩
 clear a A;rintro⟨Hc,k,bad,PA⟩ ⟨⟨k0,k1⟩,Bd,lJ,ow,P,Q,a⟩;dsimp only at k0 k1 Bd lJ a ⊢
 by_cases X:k<L.length
 .obtain⟨pp,r8,nk⟩:=hd.ix k0 X;have nk:=nk Hc λv o hv hc=>(a.kp v o hv hc).1;have N:=hL _ (gq k0 X);have c1:=adr (gt L k) N;have E:=agb (p:=λc => !iY l.length c) k0 X;rw[<-Bd]at E;have xO:=Mx N;rw[<-xO]at c1;have s:(gT (gt L k)).length=36:=Fl.len _;have Z:gw (gT (gt L k))=true:=Fl.cl _;have q:(gT (gt L k)).take 36=gT (gt L k):=af (by omega);have A:=a.ct;rw[De]at A;have z:∀R:U,(Hc++R)[ck]? = some (.row 168 0 (g.cells ++ [gQ l,.sl 1 (nx.map fN),dcl,.fM H.length 0 1 0 l.length])):=λR=>ig A;obtain⟨p,hp⟩:∃p,snd (gt L k).c=p:=⟨_,rfl⟩;rw[hp]at c1;simp[X,r8,nk];refine CN s q r8 nk ?_;simp[s,q];refine iW.c rfl rfl c1 (by simp[Z]) (by simp) ?_;have u:iY l.length (gt L k).c=(p&&decide ((gt L k).c.hi<=l.length)):=by unfold iY;rw[hp]
  have B:gT (gt L k)=D.i (gt L k).c.who::D.i (gt L k).c.lo::D.i (gt L k).c.hi::dE (gt L k).em (gt L k).c.es::cl fU (gt L k).c.root:=by rw[xO];unfold Cw.cells;rfl
  have Gr:(k.toNat:Int)=k:=by omega
  have MT:iY l.length (gt L k).c=false->hM (iY l.length) (cs L) (k+1).toNat=hM (iY l.length) (cs L) k.toNat:=λh=>by rw[show(k+1).toNat=k.toNat+1 by omega];refine ae3 ?_;rw[Gr,Qd k0 X];exact h
  cases p
  .rw[Bool.false_and]at u;simp only[u,Bool.not_false,if_true]at E
   have hX:(gT (gt L k)).take 36++(D.i 0::D.i 0::D.i 0::D.fX::AL.cl fU (zs 32)).drop (min 36 (gT (gt L k)).length)=gT (gt L k):=by rw[q,s];simp
   simp[s,q];refine kM s q ?_;rcases a.bd with⟨rfl,rfl⟩|⟨Bc,v,gn,rfl,F,vb⟩
   .simp;refine fQ ?_;refine LJ.i (_,k+1,[k],.fM (Hc.length+2) 0 1 0 1) (by simp) rfl rfl rfl ?_;refine⟨by dsimp only;omega,im,E.symm,by simp;omega,?_⟩;dsimp only;rw[MT u,hX];have m:=(a.more (o:=.row 72 0 (gT (gt L k))) (zX Z) (7,0,0)).more (o:=.row 3 0 [.i k]) rfl (7,0,0);obtain⟨oJ,Dk⟩:=m.UD k;exact⟨oJ,P,Q,by simpa[qp,iI]using Dk⟩
   .have zn:∀R:U,(Hc++R)[v]? = some (.row 3 gn (AL.cl f1 bad)):=λR=>ig F;have Gk:∀(R:U) (o:Ob),(Hc++R).set v o=Hc.set v o++R:=λR o=>aO _ _ (jj F);simp[zn,Gk];refine kM zn Gk ?_;refine LJ.i (_,k+1,bad ++ [k],.fM v (gn+1) 1 0 (bad.length+1)) (by simp) rfl rfl rfl ?_;refine⟨by dsimp only;omega,im,E.symm,by simp;omega,?_⟩;dsimp only;rw[MT u,hX];have m:=((a.UE (k:=k) Bc F vb).more (o:=.row 72 0 (gT (gt L k))) (zX Z) (7,0,0)).more (o:=.row 3 0 [.i k]) rfl (7,0,0);exact⟨_,P,Q,by simpa using m⟩
  .rw[dZ]at u
   by_cases Bm:(gt L k).c.hi<=l.length
   .rw[decide_eq_true Bm]at u;simp only[u,Bool.not_true,bz,if_false]at E;have S:¬(l.length:Int)<(gt L k).c.hi:=by omega
    have GV:=Im hp
    have hX:(gT (gt L k)).take 36++(D.i 0::D.i 0::D.i 0::D.fX::AL.cl fU (zs 32)).drop (min 36 (gT (gt L k)).length)=gT (gt L k):=by rw[q,s];simp
    have o4:=Py N.em
    have W3:(gt L k).c.root.take 32++(zs 32).drop (min 32 (gt L k).c.root.length)=(gt L k).c.root:=by rw[N.root,af (by rw[N.root];omega)];simp
    simp[s,q,hX,B,z,S];(with_reducible repeat' first|refine Xk ?_<;>try simp[s,q,hX,B,z,S,o4]|refine Xs ?_ ?_<;>intro h<;>(try intro Y)<;>(try simp[h,s,q,hX,B,z,S,o4])<;>try omega|refine Xg ?_|omega);simp[o4,W3];refine fZ.s (by simp[W3,<-B];rfl) ?_;rw[hX];have hB:=a.box (o:=.row 72 0 (gT (gt L k))) (zX Z);have n6:(gt L k).c.hi=(gt L k).c.lo+(gt L k).c.es.length:=by omega
    have Dz:gt (cs L) (k.toNat:Int)=(gt L k).c:=by rw[Gr,Qd k0 X]
    refine fZ.e ((Hc ++ [.row 72 0 (gT (gt L k))],0):U×Int) (λy=>[(0,.ptr ck 0 0),(3,PA),(5,.i k),(6,.ptr Hc.length 0 0),(38,dcl),(39,.i L.length),(40,.i k),(63,dE (gt L k).em (gt L k).c.es),(64,.i (gt L k).c.es.length),(65,.i y.2)]) (λy=>y.1) (λy=>(0<=y.2/\y.2<=(gt L k).c.es.length)/\∃ow P Q,HI H y.1 ck H.length l.length C (hP (iY l.length) (cs L) k.toNat y.2.toNat) bad PA (some (Hc.length,.row 72 0 (gT (gt L k)))) ow P Q) (λy=>((gt L k).c.es.length-y.2).toNat) ?_ ?_
    .exact⟨by simp,_,P,Q,by rw[show(((Hc ++ [Ob.row 72 0 (gT (gt L k))],0):U×Int).2).toNat=0 from rfl,ae6];exact hB⟩
    clear a hB A z;rintro⟨f,e⟩ ⟨⟨e0,e1⟩,ow,P,Q,a⟩;dsimp only at e0 e1 a ⊢
    by_cases O:e<(gt L k).c.es.length
    .have QV:(gt L k).em=false:=by
      cases h:(gt L k).em with
      | false=>rfl
      | true=>rw[N.em h]at O;simp at O;omega
     have g':dE (gt L k).em (gt L k).c.es=ie (gt L k).c.es:=by rw[QV];rfl
     have A:=a.ct;rw[De]at A;have z:∀R:U,(f++R)[ck]? = some (.row 168 0 (g.cells ++ [gQ l,.sl 1 (nx.map fN),dcl,.fM H.length 0 1 0 l.length])):=λR=>ig A;have QI:∀R:U,(f++R)[Hc.length]? = some (.row 72 0 (gT (gt L k))):=λR=>ig (a.bx _ rfl).1;have o5:∀R:U,(f++R)[H.length]? = some (.row 170 0 ((List.range l.length).map λj=>D.gx (P j))):=λR=>ig a.sg.row;obtain⟨r,hr⟩:∃r,gt (gt L k).c.es e=r:=⟨_,rfl⟩;obtain⟨j,hj⟩:∃j:Nat,(gt L k).c.lo+e=j:=⟨((gt L k).c.lo+e).toNat,by omega⟩;have K:j<l.length:=by omega
     have mz:=N.lo;rw[g'];simp[O,hr];refine kM O hr ?_;simp[z,QI,o5,B,hj,K];(with_reducible repeat' first|refine Xk ?_<;>try simp[z,QI,o5,B,hj,K]|refine Xs ?_ ?_<;>intro h<;>(try intro Y)<;>(try simp[h,z,QI,o5,B,hj,K])<;>try omega|refine Xg ?_|omega);have vi:(gt (cs L) (k.toNat:Int)).lo.toNat+e.toNat=j:=by rw[Dz];omega
     have gh:hP (iY l.length) (cs L) k.toNat (e+1).toNat=vU (hP (iY l.length) (cs L) k.toNat e.toNat) j (nP r k (hP (iY l.length) (cs L) k.toNat e.toNat j)):=by have:=ae5 (ad:=iY l.length) (cl:=cs L) (k:=k.toNat) (e:=e.toNat) (by rw[Dz];exact GV.1);rw[vi,Dz,show(e.toNat:Int)=e by omega,hr,Gr]at this;rw[show(e+1).toNat=e.toNat+1 by omega];exact this
     have WV:hP (iY l.length) (cs L) k.toNat e.toNat j=hM (iY l.length) (cs L) k.toNat j:=by have:=WX (ad:=iY l.length) (cl:=cs L) (k:=k.toNat) (e:=e.toNat) (by rw[Dz];exact GV.1);rw[vi]at this;exact this
     have gU:∀t x,nQ r (hP (iY l.length) (cs L) k.toNat e.toNat j)=some (t,x)->x≠[]/\x.length<=k.toNat:=λt x h=>by rw[WV]at h;exact⟨aeS h,aeR h⟩
     obtain⟨w,WU⟩:∃w,hP (iY l.length) (cs L) k.toNat e.toNat=w:=⟨_,rfl⟩;rw[WU]at a gh gU;clear WU WV vi;obtain⟨p1,p2⟩:=a.sg.mp j K;have M:=jj p1;have hS:∀(R:U) (o:Ob),(f++R).set (P j) o=f.set (P j) o++R:=λR o=>aO _ _ M
     cases hg:nQ r (w j)with
     | none=>
      have I:∀R,yg (.ints [.i64,.i64]) .fX (.gx (P j)) (.agg [.i r.1,.i r.2]) (f++R)=some (.tup [.fX,.i (w j).length],.obj (P j) (.map KS (iM (Q j) 0 (w j) ++ [(lj r,.fX)]))):=λR=>ag1 (ig p1) hg
      have hN:∀(o:Ob) (R:U) (i:Nat),(f.set (P j) o++R)[f.length+i]? = R[i]? := λo R i=>by rw[ai (by rw[ar];omega),ar];congr 1;omega
      have G:∀(d:D) (R:U),AJ (.gx (P j)) (.i (w j).length) d (f.set (P j) (.map KS (iM (Q j) 0 (w j) ++ [(lj r,.fX)]))++R)=some (.any,.obj (P j) (.map KS (iM (Q j) 0 (w j) ++ [(lj r,d)]))):=λd R=>by rw[Vv (es:=iM (Q j) 0 (w j) ++ [(lj r,.fX)]) (k:=lj r) (d0:=.fX) (by rw[ah (by rw[ar];exact M),aL M]) (by rw[ai (by rw[AO];omega),AO,bV];rfl)];rw[dw _ _ (by rw[AO];omega),AO,bV];rfl
      have W:∀(R:U) (o o':Ob),(f.set (P j) o++R).set (P j) o'=f.set (P j) o'++R:=λR o o'=>by rw[aO _ _ (by rw[ar];exact M),List.set_set]
      simp[I,hS,hN,G,W];(with_reducible repeat' first|refine Xk ?_<;>try simp[I,hS,hN,G,W]|refine Xs ?_ ?_<;>intro h<;>(try intro Y)<;>(try simp[h,I,hS,hN,G,W])<;>try omega|refine Xg ?_|omega);refine LJ.i (_,e+1) (by simp) rfl rfl rfl ?_;refine⟨by dsimp only;omega,im,?_⟩;dsimp only;rw[gh];have m:=(a.more (o:=.row 86 0 [.i r.1,.i r.2]) rfl (7,0,0)).more (o:=.row 3 0 [.i k]) rfl (7,0,0);obtain⟨oJ,Q',Dk,_⟩:=m.new (r:=r) (k:=k) K hg;refine⟨oJ,P,Q',?_⟩;have O:(f ++ [Ob.row 86 0 [.i r.1,.i r.2]] ++ [Ob.row 3 0 [.i k]]).length=f.length+2:=by simp
      rw[O,aJ,aO _ _ M]at Dk;simpa[qp,iI,oI]using Dk
     | some tx=>
      obtain⟨t,x⟩:=tx;obtain⟨e4,sc⟩:=gU t x hg;have n4:0<x.length:=ax.2 e4;obtain⟨q1,q2⟩:=a.sg.ls j K t _ (zb (k:=k) hg).1;have DN:=jj q1;have zB:P j≠Q j t:=λe=>by rw[e,q2]at p2;simp at p2
      have wP:∀R:U,(f++R)[Q j t]? = some (.row 3 (x.length-1) (AL.cl f1 x)):=λR=>ig q1;have I:∀R,yg (.ints [.i64,.i64]) .fX (.gx (P j)) (.agg [.i r.1,.i r.2]) (f++R)=some (.tup [oI (Q j t) x,.i t],.obj (P j) (.map KS (iM (Q j) 0 (w j)))):=λR=>ag2 (ig p1) hg;have zF:f.set (P j) (.map KS (iM (Q j) 0 (w j)))=f:=sk p1;have hQ:∀(R:U) (o:Ob),(f++R).set (Q j t) o=f.set (Q j t) o++R:=λR o=>aO _ _ DN
      have G:∀(d:D) (o:Ob) (R:U),AJ (.gx (P j)) (.i t) d (f.set (Q j t) o++R)=some (.any,.obj (P j) (.map KS ((iM (Q j) 0 (w j)).set t (lj r,d)))):=λd o R=>by
       refine Vv (k:=lj r) (d0:=oI (Q j t) x) ?_ ?_
       .rw[ah (by rw[ar];exact M),aB (cu zB)];exact p1
       .rw[u4,(zb (k:=k) hg).1];simp
      have W:∀(R:U) (o o':Ob),(f.set (Q j t) o++R).set (P j) o'=(f.set (Q j t) o).set (P j) o'++R:=λR o o'=>aO _ _ (by rw[ar];exact M);simp[I,hS,zF,wP,hQ,G,W,oI];(with_reducible repeat' first|refine Xk ?_<;>try simp[I,hS,zF,wP,hQ,G,W,oI]|refine Xs ?_ ?_<;>intro h<;>(try intro Y)<;>(try simp[h,I,hS,zF,wP,hQ,G,W,oI])<;>try omega|refine Xg ?_|omega);refine LJ.i (_,e+1) (by simp) rfl rfl rfl ?_;refine⟨by dsimp only;omega,im,?_⟩;dsimp only;rw[gh];have m:=((a.old (r:=r) (k:=k) K hg).more (o:=.row 86 0 [.i r.1,.i r.2]) rfl (7,0,0)).more (o:=.row 3 0 [.i k]) rfl (7,0,0);have lh:(x ++ [k]).length-1=x.length-1+1:=by simp;omega
      have kE:(x ++ [k]).length=x.length+1:=by simp
      have:oI (Q j t) (x ++ [k]) = .fM (Q j t) (x.length-1+1) 1 0 (x.length+1):=by unfold oI;rw[lh,kE]
      rw[this]at m;unfold qp at m;rw[lh]at m;rw[aJ]at m;exact⟨_,P,Q,m⟩
    have Xf:e=(gt L k).c.es.length:=by omega
    have xP:hP (iY l.length) (cs L) k.toNat e.toNat=hM (iY l.length) (cs L) (k+1).toNat:=by rw[show(k+1).toNat=k.toNat+1 by omega];exact ae4 (by rw[Dz];exact u) (by rw[Dz];omega)
    rw[xP]at a;simp[O];refine fQ ?_;refine LJ.i (f,k+1,bad,PA) (by simp) rfl rfl rfl ?_;exact⟨by dsimp only;omega,im,E.symm,by dsimp only;omega,ow,P,Q,a.nob⟩
   .rw[decide_eq_false Bm]at u;have S:(l.length:Int)<(gt L k).c.hi:=by omega
    simp only[u,Bool.not_false,if_true]at E
    have hX:(gT (gt L k)).take 36++(D.i 0::D.i 0::D.i 0::D.fX::AL.cl fU (zs 32)).drop (min 36 (gT (gt L k)).length)=gT (gt L k):=by rw[q,s];simp
    simp[s,q,hX,B,z,S];(with_reducible repeat' first|refine Xk ?_<;>try simp[s,q,hX,B,z,S]|refine Xs ?_ ?_<;>intro h<;>(try intro Y)<;>(try simp[h,s,q,hX,B,z,S])<;>try omega|refine Xg ?_|omega);rcases a.bd with⟨rfl,rfl⟩|⟨Bc,v,gn,rfl,F,vb⟩
    .simp;refine fQ ?_;refine LJ.i (_,k+1,[k],.fM (Hc.length+2) 0 1 0 1) (by simp) rfl rfl rfl ?_;refine⟨by dsimp only;omega,im,E.symm,by simp;omega,?_⟩;dsimp only;rw[MT u,hX];have m:=(a.more (o:=.row 72 0 (gT (gt L k))) (zX Z) (7,0,0)).more (o:=.row 3 0 [.i k]) rfl (7,0,0);obtain⟨oJ,Dk⟩:=m.UD k;exact⟨oJ,P,Q,by simpa[qp,iI]using Dk⟩
    .have zn:∀R:U,(Hc++R)[v]? = some (.row 3 gn (AL.cl f1 bad)):=λR=>ig F;have Gk:∀(R:U) (o:Ob),(Hc++R).set v o=Hc.set v o++R:=λR o=>aO _ _ (jj F);simp[zn,Gk];refine kM zn Gk ?_;refine LJ.i (_,k+1,bad ++ [k],.fM v (gn+1) 1 0 (bad.length+1)) (by simp) rfl rfl rfl ?_;refine⟨by dsimp only;omega,im,E.symm,by simp;omega,?_⟩;dsimp only;rw[MT u,hX];have m:=((a.UE (k:=k) Bc F vb).more (o:=.row 72 0 (gT (gt L k))) (zX Z) (7,0,0)).more (o:=.row 3 0 [.i k]) rfl (7,0,0);exact⟨_,P,Q,by simpa using m⟩
 have vj:k=L.length:=by omega
 subst vj;rw[bF]at a Bd;rw[<-Bd];simp;refine fQ ?_;exact⟨ow,P,Q,a⟩
end Go.Proofs.YtmehofoficaelaaGreatDoor
namespace Go.Proofs.YtmehofoficaelaaGreatDoor
open Go Go.AL Classical
set_option maxRecDepth 10000
set_option maxHeartbeats 4000000
theorem UM{n:Nat}{N:Int->Int}{K:Int->Prop}(c:∀i,K i->(0<=i/\i<n)/\0<=N i)(h:∀i,K i->N i=0\/∃k,K k/\N k=N i-1):∀i,K i->N i<n:=by
 have b:∀(a:Nat) (i:Int),K i->N i=a->∀m:Nat,m<=a->∃q,K q/\N q=m:=by
  intro a
  induction a with
  | zero=>exactλi hi e m j=>⟨i,hi,by omega⟩
  | succ a d=>
   intro i hi e m j
   by_cases em:m=a+1
   .exact⟨i,hi,by omega⟩
   rcases h i hi with h1|⟨k,l,h1⟩
   .omega
   .exact d k l (by omega) m (by omega)
 intro i hi;have h0:=c i hi
 have:=HG (e9 (n:=(N i).toNat+1)) (m:=(upto n).map λk=>(N k).toNat) λx f=>by obtain⟨q,g,e⟩:=b (N i).toNat i hi (by omega) x (by have:=bj.1 f;omega);exact ao.2 ⟨q,iS.2 (c q g).1,by rw[e];rfl⟩
 simp[upto]at this;omega
theorem agL{A:l6}{n:Nat}{v:List fO}(hS:∀i:Int,0<=i->i<n->∀k∈gt A.nx i,0<=k/\k<n)(h:∀i:Int,0<=i->i<n->kn A v i){i:Int}(i0:0<=i)(e:i<n):0<=(gt v i).2/\(gt v i).2<n:=by
 refine⟨(h i i0 e).n0,UM (N:=λi=>(gt v i).2) (K:=λi=>0<=i/\i<n) (λi hi=>⟨hi,(h i hi.1 hi.2).n0⟩) (λi hi=>?_) i ⟨i0,e⟩⟩;rcases h i hi.1 hi.2 with⟨_,b⟩|⟨_,⟨a,f,b,⟨k,c,d⟩,_⟩|⟨a,f,b,_,k,c,d⟩|⟨b,_⟩⟩
 .left;rw[b]
 .right;exact⟨k,hS i hi.1 hi.2 k c,by rw[b,d]⟩
 .right;exact⟨k,hS i hi.1 hi.2 k c,by rw[b,d]⟩
 .left;rw[b]
def kV(v:List Kn):List fO:=v.map λx=>(x.1,x.2.1)
def kB(v:List Kn):List Bool:=v.map λx => !x.2.2
theorem AY{v:List Kn}{k:Int}(k0:0<=k)(k1:k<v.length):gt (kV v) k=((gt v k).1,(gt v k).2.1):=by rw[jb k0 (by unfold kV;rw[List.length_map];exact k1),jb k0 k1];unfold kV;rw[List.getElem_map]
theorem wE{v:List Kn}{k:Int}(k0:0<=k)(k1:k<v.length):gt (kB v) k = !(gt v k).2.2:=by rw[jb k0 (by unfold kB;rw[List.length_map];exact k1),jb k0 k1];unfold kB;rw[List.getElem_map]
@[local simp] theorem avy:max (0:Int) (-1)=0:=by decide
noncomputable def pg(v:List Kn)(x:List Int)(n:Int):Kn:=if BK (kV v) (kB v) x n then(1,n,true)else if (lF (kV v) (kB v) x x.length).1=x.length/\(lF (kV v) (kB v) x x.length).2=n-1 then(3,n,true)else(0,0,false)
theorem V5(v:List Kn)(l:List Int)(n:Int)(B:1<=n/\n<=4000)(h0:0<l.length)(hl:l.length<2 ^ 40)(p:∀k∈l,0<=k/\k<v.length)(z:∀k∈l,(gt v k).2.2=true->0<=(gt v k).2.1) :
  Wf T 129 [.sl 3 (v.map fK),dI l,.i n] [] (Is (.agg [.i (pg v l n).1,.i (pg v l n).2.1,.b (pg v l n).2.2])):=by
 refine Yg Lf ?_;simp[Lf];refine fZ.e (0:Int) (λy=>[(0,.sl 3 (v.map fK)),(1,dI l),(2,.i n),(6,.ptr 0 0 0),(7,.i (lF (kV v) (kB v) l y.toNat).1),(8,.i (max 0 (lF (kV v) (kB v) l y.toNat).2)),(9,.i y)]) (λy=>[.row 245 0 [.i 0,.i 0,.b false]]) (λy=>0<=y/\y<=l.length/\∀k∈l.take y.toNat,¬(gt (kB v) k=false/\gt (kV v) k=(3,n-1))) (λy=>(l.length-y).toNat) ?_ ?_
 .simp
 rintro j ⟨j0,j1,j2⟩;dsimp only at j0 j1 j2 ⊢
 by_cases f:j<l.length
 .have a:=p _ (gq j0 f);have c:=an4 (v:=kV v) (b:=kB v) (x:=l) j0;have hV:=AY a.1 a.2;have g:=wE a.1 a.2;have w:=OS (kV v) (kB v) l j.toNat
  have d:¬(gt (kB v) (gt l j)=false/\gt (kV v) (gt l j)=(3,n-1))->∀k∈l.take (j+1).toNat,¬(gt (kB v) k=false/\gt (kV v) k=(3,n-1)):=λh k a=>by
   rw[jd j0 f]at a;rcases List.mem_append.1 a with a|a
   .exact j2 k a
   .rw[List.mem_singleton.1 a];exact h
  rw[hV,g]at d c;simp[f];generalize gt v (gt l j)=r at *;obtain⟨o,m,s⟩:=r;dsimp only at d c hV g ⊢;(with_reducible repeat' first|refine Xk ?_<;>try simp|refine Xs ?_ ?_<;>intro h<;>(try intro A)<;>(try simp[h])<;>try omega|refine Xg ?_|omega)
  .have hl:BK (kV v) (kB v) l n:=⟨_,gq j0 f,by rw[g];simp[*],by rw[hV];simp[*]⟩;simp[pg,hl]
  .refine LJ.i (j+1) (by first|rfl|simp[c, *]) (by first|rfl|simp[c, *]) rfl rfl ?_;exact gI (d (by simp[*]))
  .refine LJ.i (j+1) (by first|rfl|simp[c, *]) (by first|rfl|simp[c, *]) rfl rfl ?_;exact gI (d (by simp[*]))
  .refine LJ.i (j+1) (by first|rfl|simp[c, *]) (by first|rfl|simp[c, *]) rfl rfl ?_;exact gI (d (by simp[*]))
 .have u:j=l.length:=by omega
  subst u;have hl:¬BK (kV v) (kB v) l n:=λ⟨k,a,h⟩=>j2 k (by rw[kW (by omega)];exact a) h
  have i:(lF (kV v) (kB v) l l.length).1=l.length->max 0 (lF (kV v) (kB v) l l.length).2=(lF (kV v) (kB v) l l.length).2:=λe=>by have h1:=OT _ e 0 h0;have t:=TB _ e 0 h0;have q:=gq (l:=l) (n:=((0:Nat):Int)) (by omega) (by omega);have a:=p _ q;rw[wE a.1 a.2]at t;rw[AY a.1 a.2]at h1;have:=z _ q (by simpa using t.1);dsimp only at h1;omega
  simp[f];(with_reducible repeat' first|refine Xk ?_<;>try simp|refine Xs ?_ ?_<;>intro h<;>(try intro A)<;>(try simp[h])<;>try omega|refine Xg ?_|omega)
  .rw[i ‹_›]at h;simp[pg,hl, *]
  .rw[i ‹_›]at h;simp[pg,hl, *]
  .simp[pg,hl, *]
set_option maxHeartbeats 8000000
theorem aeo(g:fY)(hg:gN g)(l:List Pos)(b:oP g l)(h0:0<l.length)(v:List fO)(q:v.length=l.length)(t:∀k:Int,0<=k->k<v.length->0<=(gt v k).2/\(gt v k).2<=4000) :
  Wf T 42 [dG g,gQ l,ie v] [] (Ey (λn:Int=>.tup [.i n,.i 0]) λn=>n<0↔∀k:Int,0<=k->k<l.length->kn (jM g l (gu g l)) v k):=by
 have s:=b.len;have E:(gu g l).length=l.length:=by simp[gu]
 have gy:=λi i0 f=>(qn b (i:=i) i0 f).2
 have x:∀k:Int,0<=k->k<l.length->(gt (gu g l) k).length<=4000000000:=λk k0 k1=>by rw[(qn b k0 k1).1,List.length_map];have:=zU hg (b.ok _ (gq k0 k1));omega
 refine Yg K1 ?_;simp[K1];refine Yc (f52 g hg l b h0) ?_;simp;(with_reducible repeat' first|refine Xk ?_<;>try simp|refine Xs ?_ ?_<;>intro h<;>(try intro D)<;>(try simp[h])<;>try omega|refine Xg ?_|omega);refine fZ.e (0:Int) (λy=>[(2,ie v),(3,.ptr 0 0 0),(8,.sl 1 ((gu g l).map fN)),(30,gQ l),(31,.i l.length),(32,.i y)]) (λy=>[.row 43 0 g.cells]) (λy=>(0<=y/\y<=l.length)/\∀k:Int,0<=k->k<y->kn (jM g l (gu g l)) v k) (λy=>(l.length-y).toNat) ?_ ?_
 .exact⟨by simp,λk k0 k1=>by omega⟩
 rintro i ⟨⟨i0,f⟩,j⟩;dsimp only at i0 f j ⊢
 have p:kn (jM g l (gu g l)) v i->∀k:Int,0<=k->k<i+1->kn (jM g l (gu g l)) v k:=λh k k0 k1=>by
  by_cases e:k=i
  .rw[e];exact h
  .exact j k k0 (by omega)
 by_cases hi:i<l.length
 .have C:=b.ok _ (gq i0 hi)
  have o:¬kn (jM g l (gu g l)) v i->Ex (λn:Int=>.tup [.i n,.i 0]) (λn=>n<0↔∀k:Int,0<=k->k<l.length->kn (jM g l (gu g l)) v k) (.tup [.i i,.i 0]) []:=λh=>
   ⟨i,rfl,rfl,⟨λc=>by omega,λc=>absurd (c i i0 hi) h⟩⟩
  simp[hi,xF];refine fQ ?_;refine Yq (f56 v (gt (gu g l) i) (λk d=>by rw[q];exact gy i i0 hi k d) (x i i0 hi) (λk k0 k1=>t k k0 k1)) λr B=>?_;simp;refine fQ ?_;refine Yc (f54 g hg (gt l i) C) ?_;simp;have w:(stat g (gt l i)).2=true->(kn (jM g l (gu g l)) v i↔gt v i=((stat g (gt l i)).1,0)):=λh=>agN (A:=jM g l (gu g l)) h;have u:(stat g (gt l i)).2=false->(kn (jM g l (gu g l)) v i↔gt v i=r):=λh=>CJ.iff (A:=jM g l (gu g l)) (λk d=>(t k (gy i i0 hi k d).1 (by rw[q];exact(gy i i0 hi k d).2)).1) h B;(with_reducible repeat' first|refine Xk ?_<;>try simp|refine Xs ?_ ?_<;>intro h<;>(try intro D)<;>(try simp[h])<;>try omega|refine Xg ?_|omega)
  .have a:=(w ‹_›).2 (cO (by assumption) (by assumption));refine LJ.e (i+1) ?_;exact⟨by omega,im,p a⟩
  .have a:¬kn (jM g l (gu g l)) v i:=λh=>absurd ((w ‹_›).1 h) (by intro e;simp_all);obtain⟨n,h1,c,m⟩:=o a;exact Ey.i n h1 c m
  .have a:=(u (by simp_all)).2 (cO (by simp_all) (by simp_all));refine LJ.e (i+1) ?_;exact⟨by omega,im,p a⟩
  .have a:¬kn (jM g l (gu g l)) v i:=λh=>absurd ((u (by simp_all)).1 h) (by intro e;simp_all);obtain⟨n,h1,c,m⟩:=o a;exact Ey.i n h1 c m
 .have z:i=l.length:=by omega
  subst z;simp;refine fQ ?_;exact Ey.i (-1) rfl rfl ⟨λ_=>j,λ_=>by omega⟩
end Go.Proofs.YtmehofoficaelaaGreatDoor
namespace Go.Proofs.YtmehofoficaelaaGreatDoor
open Go Go.AL Classical
set_option maxRecDepth 10000
set_option maxHeartbeats 16000000
attribute [-simp] s7
theorem acd{l:List fO}{n:Int}(n0:0<=n)(h:n<l.length)(a:Int):(cl fS l).take (n.toNat*2) ++ .i a::(cl fS l).drop (n.toNat*2+1)=cl fS (pt l n (a,(gt l n).2)):=by
 have e:(cl fS l).drop (n.toNat*2+1) = .i (gt l n).2::(cl fS l).drop (n.toNat*2+2):=by
  have h1:(cl fS l).drop (n.toNat*2) = .i (gt l n).1 :: .i (gt l n).2::cl fS (l.drop (n.toNat+1)):=by rw[uf,nN n0 h,mO,AS];rfl
  have b:(cl fS l).drop (n.toNat*2+2)=cl fS (l.drop (n.toNat+1)):=by rw[show n.toNat*2+2=(n.toNat+1)*2 by omega,uf]
  rw[b,<-bZ,h1];rfl
 rw[e];exact Pm a _
theorem HK{n:Nat}{H G:U}(h:jl H.length H)(a:n=H.length)(b:jl n G):jl (H++G).length (H++G):=by subst a;rw[aj];exact tN (wZ (by omega) h) (wZ (by omega) b)
section
variable{H:U}{ck sr n:Nat}{M:Nat->jY}{ow:Nat->Nat×Nat×Nat}{P:Nat->Nat}{Q:Nat->Nat->Nat}{cells:List D}
theorem l8.app(h:l8 H ck sr n M ow P Q)(G:U):l8 (H++G) ck sr n M ow P Q:=h.mono λ_ _ a _=>ig a
theorem VV(l:l8 H ck sr n M ow P Q)(fV:jl H.length H)(h:H[ck]? = some (.row 168 0 cells))(f:cells[12]? = some (.fM sr 0 1 0 n))
  {cm:List gA} (u:cm.length<=100000) {i:Int} (i0:0<=i) (j:i<n) (hM:M i.toNat=gF cm i) {t2 t3:Nat} (b:H[t2]? = some (.row 157 0 [.ptr ck 0 0])) (a:H[t3]? = some (.row 3 0 [.i i])) (q:fO) :
  Wf T 186 [.agg [.i q.1,.i q.2],.ptr t2 0 0,.ptr t3 0 0] H (λd H'=>d=dN 1 f1 (jX (λc=>jC c i&&decide (ky c i≠q)) cm cm.length)/\H'=H):=by
 have g:∀R:U,(H++R)[t2]? = some (.row 157 0 [.ptr ck 0 0]):=λR=>ig b;have e:∀R:U,(H++R)[t3]? = some (.row 3 0 [.i i]):=λR=>ig a;refine Yg Jq ?_;simp[Jq,g,e];refine gj.kU rfl rfl (PT (H:=H ++ [.row 86 0 [.i q.1,.i q.2]]) (l.app _) (HK fV rfl λo m=>by rw[List.mem_singleton.1 m];rfl) (ig h) f u i0 j hM (w:=λr=>decide (r≠q)) λr dst s K p k=>?_) ?_
 .have t:=p H.length (.row 86 0 [.i q.1,.i q.2]) (by simp);exact Yr (adY r q) k rfl rfl (by simp[t])
 .rintro _ H' ⟨rfl,rfl⟩;simp[zQ fV]
