/- Part 40 of DisputeWorkers. -/
import Derived.Test.YtmehofoficaelaaGreatDoorW39
set_option linter.all false
namespace Go.Proofs.YtmehofoficaelaaGreatDoor
open Go Go.AL Classical
def oset(ow:Nat->Nat×Nat×Nat)(v:Nat)(a:Nat×Nat×Nat):Nat->Nat×Nat×Nat:=λw=>if w=v then a else ow w
theorem Z8(ow:Nat->Nat×Nat×Nat)(v:Nat)(a:Nat×Nat×Nat):oset ow v a v=a:=if_pos rfl
theorem Cn{ow:Nat->Nat×Nat×Nat}{v w:Nat}{a:Nat×Nat×Nat}(h:w≠v):oset ow v a w=ow w:=if_neg h
theorem jr{H:U}{v:Nat}{o:Ob}(h:H[v]? = some o):v<H.length:=(ae.1 h).1
theorem iv{H G:U}{v:Nat}{o:Ob}(h:H[v]? = some o):(H++G)[v]? = some o:=by rw[ah (jr h)];exact h
theorem mj.own{H:U}{ck sr n:Nat}{M:Nat->kh}{ow:Nat->Nat×Nat×Nat}{P:Nat->Nat}{Q:Nat->Nat->Nat}(h:mj H ck sr n M ow P Q){v:Nat}(g:H.length<=v)(f:ck<v)(a:Nat×Nat×Nat):mj H ck sr n M (oset ow v a) P Q:=by
 have ne:∀ {w o},H[w]? = some o->w≠v:=λe=>by have:=jr e;omega
 refine⟨?_,?_,h.row,λj b=>?_,λj b t x d=>?_⟩
 .rw[Cn (by omega)];exact h.fc
 .rw[Cn (ne h.row)];exact h.fs
 .obtain⟨h1,c⟩:=h.mp j b;exact⟨h1,by rw[Cn (ne h1)];exact c⟩
 .obtain⟨h1,c⟩:=h.ls j b t x d;exact⟨h1,by rw[Cn (ne h1)];exact c⟩
def abB(Hc:U)(ow:Nat->Nat×Nat×Nat)(bad:List Int)(d:D):Prop:=
 (bad = []/\d = .gg)\/(bad≠[]/\∃v g,d = .fY v g 1 0 bad.length/\Hc[v]? = some (.row 3 g (cl f1 bad))/\ow v=(4,0,0))
structure HI(H0 Hc:U)(ck sr n:Nat)(C:Ob)(M:Nat->kh)(bad:List Int)(d:D)(b:Option (Nat×Ob))(ow:Nat->Nat×Nat×Nat)(P:Nat->Nat)(Q:Nat->Nat->Nat):Prop where
 sg:mj Hc ck sr n M ow P Q
 ct:Hc[ck]? = some C
 ok:jj Hc.length Hc
 lt:ck<H0.length
 kp:∀v o,H0[v]? = some o->v≠ck->Hc[v]? = some o/\ow v=(5,0,0)
 bd:abB Hc ow bad d
 bx:∀p,b=some p->Hc[p.1]? = some p.2/\ow p.1=(6,0,0)
section
variable{H0 Hc:U}{ck sr n:Nat}{C:Ob}{M:Nat->kh}{bad:List Int}{d:D}{b:Option (Nat×Ob)}{ow:Nat->Nat×Nat×Nat}{P:Nat->Nat}{Q:Nat->Nat->Nat}
theorem HI.more(h:HI H0 Hc ck sr n C M bad d b ow P Q){o:Ob}(l:ni (Hc.length+1) o=true)(a:Nat×Nat×Nat):HI H0 (Hc ++ [o]) ck sr n C M bad d b (oset ow Hc.length a) P Q:=by
 have ne:∀ {w o},Hc[w]? = some o->w≠Hc.length:=λj=>by have:=jr j;omega
 refine⟨(h.sg.own (Nat.le_refl _) (jr h.ct) a).mono λv o e _=>iv e,iv h.ct,?_,h.lt,λv o e m=>?_,?_,λp k=>?_⟩
 .rw[ak,aY];refine uk (xq (by omega) h.ok) λx i=>?_;rw[List.mem_singleton.1 i];exact l
 .obtain⟨h1,c⟩:=h.kp v o e m;exact⟨iv h1,by rw[Cn (ne h1)];exact c⟩
 .rcases h.bd with h1|⟨h1,v,g,c,f,q⟩
  .exact .inl h1
  .exact .inr ⟨h1,v,g,c,iv f,by rw[Cn (ne f)];exact q⟩
 .obtain⟨h1,c⟩:=h.bx p k;exact⟨iv h1,by rw[Cn (ne h1)];exact c⟩
theorem HI.box(h:HI H0 Hc ck sr n C M bad d b ow P Q){o:Ob}(c:ni (Hc.length+1) o=true):HI H0 (Hc ++ [o]) ck sr n C M bad d (some (Hc.length,o)) (oset ow Hc.length (6,0,0)) P Q:=by
 have h1:=h.more c (6,0,0)
 exact⟨h1.sg,h1.ct,h1.ok,h1.lt,h1.kp,h1.bd,λp a=>by
  cases a
  exact⟨by rw[ai (by omega),bS];rfl,Z8 _ _ _⟩⟩
theorem HI.nob(h:HI H0 Hc ck sr n C M bad d b ow P Q):HI H0 Hc ck sr n C M bad d none ow P Q:=⟨h.sg,h.ct,h.ok,h.lt,h.kp,h.bd,λ_ a=>by cases a⟩
theorem HI.UW(h:HI H0 Hc ck sr n C M [] .gg b ow P Q)(k:Int):∃a,HI H0 (Hc ++ [rA [k]]) ck sr n C M [k] (.fY Hc.length 0 1 0 1) b a P Q:=by have h1:=h.more (o:=rA [k]) (by unfold rA;exact yN _) (4,0,0);exact⟨_,h1.sg,h1.ct,h1.ok,h1.lt,h1.kp,.inr ⟨by simp,_,_,rfl,by rw[ai (by omega),bS];rfl,Z8 _ _ _⟩,h1.bx⟩
theorem HI.UX{v g:Nat}{k:Int}(h:HI H0 Hc ck sr n C M bad (.fY v g 1 0 bad.length) b ow P Q)(r:bad≠[])(f:Hc[v]? = some (.row 3 g (cl f1 bad)))(l:ow v=(4,0,0)) :
  HI H0 (Hc.set v (.row 3 (g+1) (cl f1 (bad ++ [k])))) ck sr n C M (bad ++ [k]) (.fY v (g+1) 1 0 (bad.length+1)) b ow P Q:=by
 have hl:=jr f;have key:∀w o,Hc[w]? = some o->ow w≠(4,0,0)->(Hc.set v (.row 3 (g+1) (cl f1 (bad ++ [k]))))[w]? = some o:=λw o d q=>by grind
 refine⟨?_,key _ _ h.ct (by rw[h.sg.fc];simp),?_,h.lt,λw o d m=>?_,.inr ⟨by simp,v,g+1,by simp,by rw[aI hl],l⟩,λp i=>?_⟩
 .refine⟨h.sg.fc,h.sg.fs,key _ _ h.sg.row (by rw[h.sg.fs];simp),λj c=>?_,λj c t x e=>?_⟩
  .obtain⟨h1,a⟩:=h.sg.mp j c;exact⟨key _ _ h1 (by rw[a];simp),a⟩
  .obtain⟨h1,a⟩:=h.sg.ls j c t x e;exact⟨key _ _ h1 (by rw[a];simp),a⟩
 .rw[ao];exact pD h.ok (yN _)
 .obtain⟨h1,a⟩:=h.kp w o d m;exact⟨key _ _ h1 (by rw[a];simp),a⟩
 .obtain⟨h1,a⟩:=h.bx p i;exact⟨key _ _ h1 (by rw[a];simp),a⟩
theorem HI.rest{f:U}{k:Nat->kh}{j:Nat->Nat×Nat×Nat}{Q':Nat->Nat->Nat}(h:HI H0 Hc ck sr n C M bad d b ow P Q)(hs:mj f ck sr n k j P Q')(gf:jj f.length f)
  (i:∀v o,Hc[v]? = some o->ow v=(0,0,0)\/ow v=(4,0,0)\/ow v=(5,0,0)\/ow v=(6,0,0)->f[v]? = some o/\j v=ow v):HI H0 f ck sr n C k bad d b j P Q':=by
 refine⟨hs,(i _ _ h.ct (.inl h.sg.fc)).1,gf,h.lt,λw o l q=>?_,?_,λp m=>?_⟩
 .obtain⟨h1,a⟩:=h.kp w o l q;obtain⟨e,c⟩:=i _ _ h1 (.inr (.inr (.inl a)));exact⟨e,c.trans a⟩
 .rcases h.bd with h1|⟨h1,v,g,a,e,c⟩
  .exact .inl h1
  .obtain⟨s,r⟩:=i _ _ e (.inr (.inl c));exact .inr ⟨h1,v,g,a,s,r.trans c⟩
 .obtain⟨h1,a⟩:=h.bx p m;obtain⟨e,c⟩:=i _ _ h1 (.inr (.inr (.inr a)));exact⟨e,c.trans a⟩
theorem HI.old(h:HI H0 Hc ck sr n C M bad d b ow P Q){j t:Nat}{r:fZ}{x:List Int}{k:Int}(f:j<n)(i:oh r (M j)=some (t,x)) :
  HI H0 ((Hc.set (Q j t) (rA (x ++ [k]))).set (P j) (.map KS ((iV (Q j) 0 (M j)).set t (lA r,oI (Q j t) (x ++ [k]))))) ck sr n C (wC M j (oe r k (M j))) bad d b ow P Q:=by
 obtain⟨q,_⟩:=zH (k:=k) i;obtain⟨m,g⟩:=h.sg.mp j f;obtain⟨q1,q2⟩:=h.sg.ls j f t _ q;have u:P j≠Q j t:=λe=>by rw[e,q2]at g;simp at g
 have key:∀v o,Hc[v]? = some o->v≠P j->v≠Q j t->((Hc.set (Q j t) (rA (x ++ [k]))).set (P j) (.map KS ((iV (Q j) 0 (M j)).set t (lA r,oI (Q j t) (x ++ [k])))))[v]? = some o:=λv o a h1 l=>by grind
 refine h.rest (h.sg.old f i ?_ ?_ λv o a h1 l _=>key v o a h1 l) ?_ λv o a s=>⟨key v o a (λe=>?_) (λe=>?_),rfl⟩
 .grind
 .grind
 .rw[ao,ao];refine pD (pD h.ok (by unfold rA;exact yN _)) ?_;have p:=h.ok _ (List.mem_of_getElem? m);refine List.all_eq_true.2 λy c=>?_;rcases dH c with c|rfl
  .exact List.all_eq_true.1 p y c
  .show decide (Q j t<Hc.length)=true;exact decide_eq_true (jr q1)
 .grind
 .grind
theorem HI.new(h:HI H0 Hc ck sr n C M bad d b ow P Q){j:Nat}{r:fZ}{k:Int}(l:j<n)(p:oh r (M j)=none) :
  ∃c Q',HI H0 ((Hc.set (P j) (.map KS (iV (Q j) 0 (M j) ++ [(lA r,oI Hc.length [k])]))) ++ [rA [k]]) ck sr n C (wC M j (oe r k (M j))) bad d b c P Q'/\∀w,w<Hc.length->c w=ow w:=by
 obtain⟨g,s⟩:=h.sg.mp j l;have key:∀v o,Hc[v]? = some o->v≠P j->((Hc.set (P j) (.map KS (iV (Q j) 0 (M j) ++ [(lA r,oI Hc.length [k])]))) ++ [rA [k]])[v]? = some o:=λv o i h1=>by grind
 obtain⟨c,Q',hs,f⟩:=h.sg.new (H':=(Hc.set (P j) (.map KS (iV (Q j) 0 (M j) ++ [(lA r,oI Hc.length [k])]))) ++ [rA [k]]) (v:=Hc.length) (k:=k) l p (jr h.ct) (Nat.le_refl _)
  (by rw[ah (by rw[ao];exact jr g),aI (jr g)]) (by rw[ai (by rw[ao];omega),ao,bS];rfl) λw o f h1 _=>key w o f h1
 refine⟨c,Q',h.rest hs ?_ λv o i t=>⟨key v o i λe=>?_,f v (by have:=jr i;omega)⟩,λw hl=>f w (by omega)⟩
 .rw[ak,ao,aY];refine uk (pD (xq (by omega) h.ok) ?_) λx m=>?_
  .have q:=h.ok _ (List.mem_of_getElem? g);refine List.all_eq_true.2 λy a=>?_;rcases List.mem_append.1 a with a|a
   .exact EW (by omega) (List.all_eq_true.1 q y a)
   .rw[List.mem_singleton.1 a];show decide (Hc.length<Hc.length+1)=true;exact decide_eq_true (by omega)
  .rw[List.mem_singleton.1 m];unfold rA;exact yN _
 .grind
end
def pF(b n k:Nat):List D:=(List.range n).map λj=>if j<k then D.gD (b+(j+1))else .val (.map none)
theorem anB(b n:Nat):pF b n 0=List.replicate n (.val (.map none)):=by unfold pF;refine br (by simp) λi h1 a=>by simp
theorem aaI(b n k:Nat):(pF b n k).length=n:=by simp[pF]
theorem anC(b n:Nat):pF b n n=(List.range n).map λj=>D.gD (b+(j+1)):=by unfold pF;refine aw λj a=>?_;rw[bj]at a;rw[if_pos a]
theorem anD{b n k:Nat}(h:k<n):(pF b n k).take k ++ .gD (b+(k+1))::(pF b n k).drop (k+1)=pF b n (k+1):=by
 refine bI λi=>?_;have hl:((pF b n k).take k).length=k:=by rw[aK,aaI];omega
 by_cases h1:i<k
 .rw[ah (by omega),fw h1];unfold pF;rw[au,au,bN (by omega)];simp only[aH];rw[if_pos h1,if_pos (by omega)]
 .rw[ai (by omega),hl]
  by_cases a:i=k
  .subst a;rw[bS,fD];unfold pF;rw[au,bN h];simp only[aH];rw[if_pos (by omega)]
  .rw[show i-k=(i-k-1)+1 by omega,dh,aG,show k+1+(i-k-1)=i by omega];unfold pF;rw[au,au]
   by_cases c:i<n
   .grind
   .grind
theorem HI.start{H:U}{ck n:Nat}{o C:Ob}(gf:jj H.length H)(f:H[ck]? = some o)(h:ni (H.length+1) C=true) :
  ∃ow P Q,HI H (H.set ck C++(.row 170 0 (pF H.length n n)::List.replicate n (.map KS []))) ck H.length n C (λ_=>[]) [] .gg none ow P Q:=by
 have hl:=jr f;have c:∀j,j<n->(H.set ck C++(.row 170 0 (pF H.length n n)::List.replicate n (.map KS [])))[H.length+(j+1)]? = some (.map KS []):=λj a=>by grind
 refine⟨λv=>if v=ck then(0,0,0)else if v<H.length then(5,0,0)else if v=H.length then(1,0,0)else(2,v-H.length-1,0),λj=>H.length+(j+1),λ_ _=>0,⟨?_,?_,?_,λj a=>?_,λj a t x b=>?_⟩,?_,?_,hl,λv x i k=>⟨?_,?_⟩,.inl ⟨rfl,rfl⟩,λp g=>by cases g⟩
 .grind
 .grind
 .rw[ai (by rw[ao];omega),ao,bS,fD,anC]
 .refine⟨c j a,?_⟩;rw[if_neg (by omega),if_neg (by omega),if_neg (by omega)];congr 2;omega
 .cases b
 .grind
 .rw[ak,ao,aJ,eE];refine uk (pD (xq (by omega) gf) (ZS (by omega) h)) λx b=>?_;rcases av.1 b with rfl|b
  .refine List.all_eq_true.2 λd e=>?_;unfold pF at e;obtain⟨j,a,rfl⟩:=ar.1 e;rw[bj]at a;rw[if_pos a];exact decide_eq_true (by omega)
  .simp_all
 .grind
 .grind
end Go.Proofs.YtmehofoficaelaaGreatDoor
namespace Go.Proofs.YtmehofoficaelaaGreatDoor
open Go Go.AL Classical
set_option maxRecDepth 10000
set_option maxHeartbeats 16000000
theorem agI{p:gK->Bool}{L:List Cw}{k:Int}(k0:0<=k)(a:k<L.length):kf p (cs L) (k+1).toNat=if p (gt L k).c=true then kf p (cs L) k.toNat ++ [k]else kf p (cs L) k.toNat:=by
 have b:gt (cs L) k=(gt L k).c:=by unfold cs;rw[jg k0 (by rw[List.length_map];exact a),jg k0 a,List.getElem_map]
 rw[show(k+1).toNat=k.toNat+1 by omega,kf,show((k.toNat:Nat):Int)=k by omega,b]
theorem wR(L:List Cw):(cs L).length=L.length:=by simp[cs]
theorem UU{cl:List gK}{n:Nat}(h:0<=lj cl n):lj cl n<n/\mM (sd cl (lj cl n))=true:=by
 rcases FR cl n with⟨h1,_⟩|⟨h1,a,_⟩
 .omega
 .exact⟨h1.2,a⟩
end Go.Proofs.YtmehofoficaelaaGreatDoor
namespace Go.Proofs.YtmehofoficaelaaGreatDoor
open Go Go.AL Classical
set_option maxRecDepth 10000
set_option maxHeartbeats 16000000
attribute [-simp] uL
def ko(g:gi)(l:List Pos)(nx:List (List Int))(dcl sd:D):List D:=g.cells ++ [gZ l,.sl 1 (nx.map fN),dcl,sd]
theorem sN{H:U}{v:Nat}{o:Ob}(h:H[v]? = some o):H.set v o=H:=by obtain⟨h1,a⟩:=ae.1 h;rw[<-a,eA]
theorem afk{p:gK->Bool}{s:gK->fZ}{cl:List gK}{n t:Nat}{r:fZ}{x:List Int}(h:oh r (pj p s cl n)=some (t,x)):x.length<=n:=by obtain⟨h1,_⟩:=zH (k:=0) h;rw[(QC (List.mem_of_getElem? h1)).1];exact Av _ _ ((Ez _ _ _).imp λh e=>by omega) λk a=>(Ao.1 a).1
theorem afl{p:gK->Bool}{s:gK->fZ}{cl:List gK}{n t:Nat}{r:fZ}{x:List Int}(h:oh r (pj p s cl n)=some (t,x)):x≠[]:=by obtain⟨h1,_⟩:=zH (k:=0) h;exact(QC (List.mem_of_getElem? h1)).2
theorem QF{L:List Cw}{k:Int}(k0:0<=k)(a:k<L.length):gt (cs L) k=(gt L k).c:=by unfold cs;rw[jg k0 (by rw[List.length_map];exact a),jg k0 a,List.getElem_map]
theorem Ax{n t g:Nat}{cs:List D}(h:gF cs=true):ni n (.row t g cs)=true:=List.all_eq_true.2 λd a=>AK (mo h d a)
def CV(H:U)(ck:Nat)(L:List Cw)(dcl:D):Prop:=
 dcl = .sl 36 (L.map gR)\/(L = []/\dcl = .gg)\/∃v g,v≠ck/\dcl = .fY v g 36 0 L.length/\H[v]? = some (.row 72 g (cl gR L))
theorem CV.len{H:U}{ck:Nat}{L:List Cw}{dcl:D}(h:CV H ck L dcl)(H':U):mX .slice dcl H'=some (.i L.length):=by
 rcases h with rfl|⟨rfl,rfl⟩|⟨v,g,_,rfl,_⟩
 .simp
 .rfl
 .simp
theorem CV.ix{H:U}{ck:Nat}{L:List Cw}{dcl:D}(h:CV H ck L dcl){k:Int}(k0:0<=k)(a:k<L.length) :
  ∃p,mH 36 dcl (.i k)=some p/\∀H':U,(∀(v:Nat) (o:Ob),H[v]? = some o->v≠ck->H'[v]? = some o)->wg 36 p H'=some (.agg ((gR (gt L k)).take 36)):=by
 have b:(gR (gt L k)).length=36:=Fl.len _;rcases h with rfl|⟨rfl,rfl⟩|⟨v,g,hc,rfl,hv⟩
 .refine⟨.gu (gR (gt L k)),?_,λH' _=>?_⟩
  .unfold mH;dsimp only;rw[if_pos ⟨rfl,k0,by rw[List.length_map];exact a⟩,jg k0 a];simp[List.getD,List.getElem?_eq_getElem (show k.toNat<L.length by omega)]
  .simp[b]
 .simp at a;omega
 .refine⟨.ptr v g (k.toNat*36),?_,λH' d=>?_⟩
  .simp[k0,a]
  .have:=d v _ hv hc;have c:k.toNat<L.length:=by omega
   simp[this,c,b]
theorem CV.app{H:U}{ck:Nat}{L:List Cw}{dcl:D}(h:CV H ck L dcl)(G:U):CV (H++G) ck L dcl:=by
 rcases h with h|h|⟨v,g,b,e,a⟩
 .exact .inl h
 .exact .inr (.inl h)
 .exact .inr (.inr ⟨v,g,b,e,iv a⟩)
theorem ad6{H:U}{ck:Nat}{g:gi}{l:List Pos}{nx:List (List Int)}{L:List Cw}{old dcl:D}(hd:CV H ck L dcl)(gf:jj H.length H)(J:H[ck]? = some (.row 168 0 (ko g l nx dcl old)))(hL:∀x∈L,x.ok)(h8:L.length<=100000)(h9:l.length<=1000)(h0:0<l.length) :
  Wf T 116 [.ptr ck 0 0] H (λd H'=>∃ow P Q,HI H H' ck H.length l.length (.row 168 0 (ko g l nx dcl (.fY H.length 0 1 0 l.length))) (hM (jn l.length) (cs L) L.length) (kf (λc => !jn l.length c) (cs L) L.length) d none ow P Q):=by
 have sA:=jr J;have uQ:=hd.len;have js:ju (H.length+1) dcl=true:=EW (by omega) (List.all_eq_true.1 (gf _ (List.mem_of_getElem? J)) dcl (by unfold ko;simp));have hG:GH H ck:=⟨sA,gf⟩;have nW:∀R o,(H++R).set ck o=H.set ck o++R:=λR o=>aM _ _ sA;have tN:∀R:U,(H++R)[ck]? = some (.row 168 0 (ko g l nx dcl old)):=λR=>iv J;have hz:=anB H.length l.length;obtain⟨C,hC⟩:∃C,Ob.row 168 0 (ko g l nx dcl (.fY H.length 0 1 0 l.length))=C:=⟨_,rfl⟩
 have g2:ni (H.length+1) C=true:=by rw[<-hC];unfold ko;simp[js]
 have gw:=HI.start (n:=l.length) gf J g2;rw[hC];have DK:C = .row 168 0 (g.cells ++ [gZ l,.sl 1 (nx.map fN),dcl,.fY H.length 0 1 0 l.length]):=hC.symm;have DL:∀sd,(Ob.row 168 0 [.i g.size,.sl 1 (g.next.map fI),dI g.jy,.sl 3 (g.kinds.map Kind.cells),.i g.gL,.b g.oK,dN 4 Clause.cells g.clauses,.i g.blocked,.i g.vo,gZ l,.sl 1 (nx.map fN),dcl,sd]) = .row 168 0 (ko g l nx dcl sd):=λsd=>by unfold ko;simp
 have W:∀(o:Ob) (R:U),(H.set ck o++R)[ck]? = some o:=λo R=>hG.iv;have NI:∀(o:Ob) (R:U),(H.set ck o++R)[H.length]? = R[0]? := λo R=>hG.afi;have pA:∀(o o':Ob) (R:U),(H.set ck o++R).set H.length o'=H.set ck o++R.set 0 o':=λo o' R=>hG.anR;refine Yg JI ?_;simp[JI,J,tN,nW,ko,<-hz,W];(with_reducible repeat' first|refine Xk ?_<;>try simp[J,tN,nW,ko,<-hz,W]|refine Xs ?_ ?_<;>intro h<;>(try intro Y)<;>(try simp[h,J,tN,nW,ko,<-hz,W])<;>try omega|refine Xg ?_|omega);refine gj.s (by simp[tN,nW,ko];rfl) ?_;rw[DL,hC];refine gj.e (0:Int) (λy=>[(0,.ptr ck 0 0),(3,.gg),(23,.i l.length),(24,.i y)]) (λy=>H.set ck C++(.row 170 0 (pF H.length l.length y.toNat)::List.replicate y.toNat (.map KS []))) (λy=>0<=y/\y<=l.length) (λy=>(l.length-y).toNat) ?_ ?_
 .simp
 rintro y ⟨y0,y1⟩;dsimp only at y0 y1 ⊢
 by_cases hy:y<l.length
 .have uU:=anD (b:=H.length) (n:=l.length) (k:=y.toNat) (by omega);have il:=aaI H.length l.length y.toNat;simp[hy,W,NI,pA,DK,il];(with_reducible repeat' first|refine Xk ?_<;>try simp[hy,W,NI,pA,DK,il]|refine Xs ?_ ?_<;>intro h<;>(try intro Y)<;>(try simp[h,hy,W,NI,pA,DK,il])<;>try omega|refine Xg ?_|omega)
  have e6:pt (pF H.length l.length y.toNat) y (.gD (H.length+(y.toNat+1)))=pF H.length l.length (y.toNat+1):=by rw[<-uU];unfold pt;simp[show(y+1).toNat=y.toNat+1 by omega]
  refine LJ.i (y+1) (by simp) ?_ rfl rfl mI;rw[e6,DL,hC,show(y+1).toNat=y.toNat+1 by omega,eH];rfl
 have yx:y=l.length:=by omega
 subst yx;obtain⟨ow,P,Q,a⟩:=gw;rw[bt];obtain⟨H1,Bu⟩:∃H1,H.set ck C++(.row 170 0 (pF H.length l.length l.length)::List.replicate l.length (.map KS []))=H1:=⟨_,rfl⟩;rw[Bu]at a ⊢;have A:=a.ct;rw[DK]at A;clear Bu W NI pA hy y0 y1;simp[A,uQ];refine lh A uQ ?_;refine gj.e ((H1,0,[],.gg):U×Int×List Int×D) (λy=>[(0,.ptr ck 0 0),(3,y.2.2.2),(38,dcl),(39,.i L.length),(40,.i y.2.1)]) (λy=>y.1) (λy=>(0<=y.2.1/\y.2.1<=L.length)/\y.2.2.1=kf (λc => !jn l.length c) (cs L) y.2.1.toNat/\y.2.2.1.length<=y.2.1.toNat/\∃ow P Q,HI H y.1 ck H.length l.length C (hM (jn l.length) (cs L) y.2.1.toNat) y.2.2.1 y.2.2.2 none ow P Q) (λy=>(L.length-y.2.1).toNat) ?_ ?_
 .exact⟨by simp,rfl,by simp,ow,P,Q,a⟩
 clear a A;rintro⟨Hc,k,bad,P7⟩ ⟨⟨k0,k1⟩,BF,lR,ow,P,Q,a⟩;dsimp only at k0 k1 BF lR a ⊢
 by_cases X:k<L.length
 .obtain⟨pp,sF,nE⟩:=hd.ix k0 X;have nE:=nE Hc λv o hv hc=>(a.kp v o hv hc).1;have N:=hL _ (gy k0 X);have c1:=adO (gt L k) N;have E:=agI (p:=λc => !jn l.length c) k0 X;rw[<-BF]at E;have vH:=Qo N;rw[<-vH]at c1;have s:(gR (gt L k)).length=36:=Fl.len _;have Z:gF (gR (gt L k))=true:=Fl.cl _;have q:(gR (gt L k)).take 36=gR (gt L k):=af (by omega);have A:=a.ct;rw[DK]at A;have z:∀R:U,(Hc++R)[ck]? = some (.row 168 0 (g.cells ++ [gZ l,.sl 1 (nx.map fN),dcl,.fY H.length 0 1 0 l.length])):=λR=>iv A;obtain⟨p,hp⟩:∃p,snd (gt L k).c=p:=⟨_,rfl⟩;rw[hp]at c1;simp[X,sF,nE];refine FK s q sF nE ?_;simp[s,q];refine je.c rfl rfl c1 (by simp[Z]) (by simp) ?_;have u:jn l.length (gt L k).c=(p&&decide ((gt L k).c.hi<=l.length)):=by unfold jn;rw[hp]
  have B:gR (gt L k)=D.i (gt L k).c.who::D.i (gt L k).c.lo::D.i (gt L k).c.hi::dE (gt L k).em (gt L k).c.es::cl fU (gt L k).c.root:=by rw[vH];unfold Cw.cells;rfl
  have w8:(k.toNat:Int)=k:=by omega
  have Ny:jn l.length (gt L k).c=false->hM (jn l.length) (cs L) (k+1).toNat=hM (jn l.length) (cs L) k.toNat:=λh=>by rw[show(k+1).toNat=k.toNat+1 by omega];refine afx ?_;rw[w8,QF k0 X];exact h
  cases p
  .rw[Bool.false_and]at u;simp only[u,Bool.not_false,if_true]at E
   have hX:(gR (gt L k)).take 36++(D.i 0::D.i 0::D.i 0::D.gg::AL.cl fU (zs 32)).drop (min 36 (gR (gt L k)).length)=gR (gt L k):=by rw[q,s];simp
   simp[s,q];refine lh s q ?_;rcases a.bd with⟨rfl,rfl⟩|⟨BE,v,gn,rfl,G,vC⟩
   .simp;refine gd ?_;refine LJ.i (_,k+1,[k],.fY (Hc.length+2) 0 1 0 1) (by simp) rfl rfl rfl ?_;refine⟨by dsimp only;omega,iy,E.symm,by simp;omega,?_⟩;dsimp only;rw[Ny u,hX];have m:=(a.more (o:=.row 72 0 (gR (gt L k))) (Ax Z) (7,0,0)).more (o:=.row 3 0 [.i k]) rfl (7,0,0);obtain⟨o4,DP⟩:=m.UW k;exact⟨o4,P,Q,by simpa[rA,iQ]using DP⟩
   .have zS:∀R:U,(Hc++R)[v]? = some (.row 3 gn (AL.cl f1 bad)):=λR=>iv G;have GZ:∀(R:U) (o:Ob),(Hc++R).set v o=Hc.set v o++R:=λR o=>aM _ _ (jr G);simp[zS,GZ];refine lh zS GZ ?_;refine LJ.i (_,k+1,bad ++ [k],.fY v (gn+1) 1 0 (bad.length+1)) (by simp) rfl rfl rfl ?_;refine⟨by dsimp only;omega,iy,E.symm,by simp;omega,?_⟩;dsimp only;rw[Ny u,hX];have m:=((a.UX (k:=k) BE G vC).more (o:=.row 72 0 (gR (gt L k))) (Ax Z) (7,0,0)).more (o:=.row 3 0 [.i k]) rfl (7,0,0);exact⟨_,P,Q,by simpa using m⟩
  .rw[ei]at u
   by_cases BO:(gt L k).c.hi<=l.length
   .rw[decide_eq_true BO]at u;simp only[u,Bool.not_true,bC,if_false]at E;have V:¬(l.length:Int)<(gt L k).c.hi:=by omega
    have HC:=IY hp
    have hX:(gR (gt L k)).take 36++(D.i 0::D.i 0::D.i 0::D.gg::AL.cl fU (zs 32)).drop (min 36 (gR (gt L k)).length)=gR (gt L k):=by rw[q,s];simp
    have px:=P5 N.em
    have Xp:(gt L k).c.root.take 32++(zs 32).drop (min 32 (gt L k).c.root.length)=(gt L k).c.root:=by rw[N.root,af (by rw[N.root];omega)];simp
    simp[s,q,hX,B,z,V];(with_reducible repeat' first|refine Xk ?_<;>try simp[s,q,hX,B,z,V,px]|refine Xs ?_ ?_<;>intro h<;>(try intro Y)<;>(try simp[h,s,q,hX,B,z,V,px])<;>try omega|refine Xg ?_|omega);simp[px,Xp];refine gj.s (by simp[Xp,<-B];rfl) ?_;rw[hX];have hB:=a.box (o:=.row 72 0 (gR (gt L k))) (Ax Z);have n6:(gt L k).c.hi=(gt L k).c.lo+(gt L k).c.es.length:=by omega
    have D0:gt (cs L) (k.toNat:Int)=(gt L k).c:=by rw[w8,QF k0 X]
    refine gj.e ((Hc ++ [.row 72 0 (gR (gt L k))],0):U×Int) (λy=>[(0,.ptr ck 0 0),(3,P7),(5,.i k),(6,.ptr Hc.length 0 0),(38,dcl),(39,.i L.length),(40,.i k),(63,dE (gt L k).em (gt L k).c.es),(64,.i (gt L k).c.es.length),(65,.i y.2)]) (λy=>y.1) (λy=>(0<=y.2/\y.2<=(gt L k).c.es.length)/\∃ow P Q,HI H y.1 ck H.length l.length C (hP (jn l.length) (cs L) k.toNat y.2.toNat) bad P7 (some (Hc.length,.row 72 0 (gR (gt L k)))) ow P Q) (λy=>((gt L k).c.es.length-y.2).toNat) ?_ ?_
    .exact⟨by simp,_,P,Q,by rw[show(((Hc ++ [Ob.row 72 0 (gR (gt L k))],0):U×Int).2).toNat=0 from rfl,afA];exact hB⟩
    clear a hB A z;rintro⟨f,e⟩ ⟨⟨e0,e1⟩,ow,P,Q,a⟩;dsimp only at e0 e1 a ⊢
    by_cases O:e<(gt L k).c.es.length
    .have Rs:(gt L k).em=false:=by
      cases h:(gt L k).em with
      | false=>rfl
      | true=>rw[N.em h]at O;simp at O;omega
     have g':dE (gt L k).em (gt L k).c.es=gY (gt L k).c.es:=by rw[Rs];rfl
     have A:=a.ct;rw[DK]at A;have z:∀R:U,(f++R)[ck]? = some (.row 168 0 (g.cells ++ [gZ l,.sl 1 (nx.map fN),dcl,.fY H.length 0 1 0 l.length])):=λR=>iv A;have Rg:∀R:U,(f++R)[Hc.length]? = some (.row 72 0 (gR (gt L k))):=λR=>iv (a.bx _ rfl).1;have py:∀R:U,(f++R)[H.length]? = some (.row 170 0 ((List.range l.length).map λj=>D.gD (P j))):=λR=>iv a.sg.row;obtain⟨r,hr⟩:∃r,gt (gt L k).c.es e=r:=⟨_,rfl⟩;obtain⟨j,hj⟩:∃j:Nat,(gt L k).c.lo+e=j:=⟨((gt L k).c.lo+e).toNat,by omega⟩;have K:j<l.length:=by omega
     have mF:=N.lo;rw[g'];simp[O,hr];refine lh O hr ?_;simp[z,Rg,py,B,hj,K];(with_reducible repeat' first|refine Xk ?_<;>try simp[z,Rg,py,B,hj,K]|refine Xs ?_ ?_<;>intro h<;>(try intro Y)<;>(try simp[h,z,Rg,py,B,hj,K])<;>try omega|refine Xg ?_|omega);have vJ:(gt (cs L) (k.toNat:Int)).lo.toNat+e.toNat=j:=by rw[D0];omega
     have gw:hP (jn l.length) (cs L) k.toNat (e+1).toNat=wC (hP (jn l.length) (cs L) k.toNat e.toNat) j (oe r k (hP (jn l.length) (cs L) k.toNat e.toNat j)):=by have:=afz (ad:=jn l.length) (cl:=cs L) (k:=k.toNat) (e:=e.toNat) (by rw[D0];exact HC.1);rw[vJ,D0,show(e.toNat:Int)=e by omega,hr,w8]at this;rw[show(e+1).toNat=e.toNat+1 by omega];exact this
     have Xi:hP (jn l.length) (cs L) k.toNat e.toNat j=hM (jn l.length) (cs L) k.toNat j:=by have:=Xl (ad:=jn l.length) (cl:=cs L) (k:=k.toNat) (e:=e.toNat) (by rw[D0];exact HC.1);rw[vJ]at this;exact this
     have ie:∀t x,oh r (hP (jn l.length) (cs L) k.toNat e.toNat j)=some (t,x)->x≠[]/\x.length<=k.toNat:=λt x h=>by rw[Xi]at h;exact⟨afl h,afk h⟩
     obtain⟨w,Xh⟩:∃w,hP (jn l.length) (cs L) k.toNat e.toNat=w:=⟨_,rfl⟩;rw[Xh]at a gw ie;clear Xh Xi vJ;obtain⟨p1,p2⟩:=a.sg.mp j K;have M:=jr p1;have hS:∀(R:U) (o:Ob),(f++R).set (P j) o=f.set (P j) o++R:=λR o=>aM _ _ M
     cases hg:oh r (w j)with
     | none=>
      have I:∀R,yH (.ints [.i64,.i64]) .gg (.gD (P j)) (.agg [.i r.1,.i r.2]) (f++R)=some (.tup [.gg,.i (w j).length],.obj (P j) (.map KS (iV (Q j) 0 (w j) ++ [(lA r,.gg)]))):=λR=>ahx (iv p1) hg
      have hN:∀(o:Ob) (R:U) (i:Nat),(f.set (P j) o++R)[f.length+i]? = R[i]? := λo R i=>by rw[ai (by rw[ao];omega),ao];congr 1;omega
      have F:∀(d:D) (R:U),Ba (.gD (P j)) (.i (w j).length) d (f.set (P j) (.map KS (iV (Q j) 0 (w j) ++ [(lA r,.gg)]))++R)=some (.any,.obj (P j) (.map KS (iV (Q j) 0 (w j) ++ [(lA r,d)]))):=λd R=>by rw[VR (es:=iV (Q j) 0 (w j) ++ [(lA r,.gg)]) (k:=lA r) (d0:=.gg) (by rw[ah (by rw[ao];exact M),aI M]) (by rw[ai (by rw[Be];omega),Be,bS];rfl)];rw[dy _ _ (by rw[Be];omega),Be,bS];rfl
      have S:∀(R:U) (o o':Ob),(f.set (P j) o++R).set (P j) o'=f.set (P j) o'++R:=λR o o'=>by rw[aM _ _ (by rw[ao];exact M),List.set_set]
      simp[I,hS,hN,F,S];(with_reducible repeat' first|refine Xk ?_<;>try simp[I,hS,hN,F,S]|refine Xs ?_ ?_<;>intro h<;>(try intro Y)<;>(try simp[h,I,hS,hN,F,S])<;>try omega|refine Xg ?_|omega);refine LJ.i (_,e+1) (by simp) rfl rfl rfl ?_;refine⟨by dsimp only;omega,iy,?_⟩;dsimp only;rw[gw];have m:=(a.more (o:=.row 86 0 [.i r.1,.i r.2]) rfl (7,0,0)).more (o:=.row 3 0 [.i k]) rfl (7,0,0);obtain⟨o4,Q',DP,_⟩:=m.new (r:=r) (k:=k) K hg;refine⟨o4,P,Q',?_⟩;have O:(f ++ [Ob.row 86 0 [.i r.1,.i r.2]] ++ [Ob.row 3 0 [.i k]]).length=f.length+2:=by simp
      rw[O,aL,aM _ _ M]at DP;simpa[rA,iQ,oI]using DP
     | some tx=>
      obtain⟨t,x⟩:=tx;obtain⟨e4,sI⟩:=ie t x hg;have n3:0<x.length:=ax.2 e4;obtain⟨q1,q2⟩:=a.sg.ls j K t _ (zH (k:=k) hg).1;have Eg:=jr q1;have Ad:P j≠Q j t:=λe=>by rw[e,q2]at p2;simp at p2
      have xf:∀R:U,(f++R)[Q j t]? = some (.row 3 (x.length-1) (AL.cl f1 x)):=λR=>iv q1;have I:∀R,yH (.ints [.i64,.i64]) .gg (.gD (P j)) (.agg [.i r.1,.i r.2]) (f++R)=some (.tup [oI (Q j t) x,.i t],.obj (P j) (.map KS (iV (Q j) 0 (w j)))):=λR=>ahy (iv p1) hg;have Af:f.set (P j) (.map KS (iV (Q j) 0 (w j)))=f:=sN p1;have hQ:∀(R:U) (o:Ob),(f++R).set (Q j t) o=f.set (Q j t) o++R:=λR o=>aM _ _ Eg
      have F:∀(d:D) (o:Ob) (R:U),Ba (.gD (P j)) (.i t) d (f.set (Q j t) o++R)=some (.any,.obj (P j) (.map KS ((iV (Q j) 0 (w j)).set t (lA r,d)))):=λd o R=>by
       refine VR (k:=lA r) (d0:=oI (Q j t) x) ?_ ?_
       .rw[ah (by rw[ao];exact M),aB (cu Ad)];exact p1
       .rw[vq,(zH (k:=k) hg).1];simp
      have S:∀(R:U) (o o':Ob),(f.set (Q j t) o++R).set (P j) o'=(f.set (Q j t) o).set (P j) o'++R:=λR o o'=>aM _ _ (by rw[ao];exact M);simp[I,hS,Af,xf,hQ,F,S,oI];(with_reducible repeat' first|refine Xk ?_<;>try simp[I,hS,Af,xf,hQ,F,S,oI]|refine Xs ?_ ?_<;>intro h<;>(try intro Y)<;>(try simp[h,I,hS,Af,xf,hQ,F,S,oI])<;>try omega|refine Xg ?_|omega);refine LJ.i (_,e+1) (by simp) rfl rfl rfl ?_;refine⟨by dsimp only;omega,iy,?_⟩;dsimp only;rw[gw];have m:=((a.old (r:=r) (k:=k) K hg).more (o:=.row 86 0 [.i r.1,.i r.2]) rfl (7,0,0)).more (o:=.row 3 0 [.i k]) rfl (7,0,0);have lW:(x ++ [k]).length-1=x.length-1+1:=by simp;omega
      have kM:(x ++ [k]).length=x.length+1:=by simp
      have:oI (Q j t) (x ++ [k]) = .fY (Q j t) (x.length-1+1) 1 0 (x.length+1):=by unfold oI;rw[lW,kM]
      rw[this]at m;unfold rA at m;rw[lW]at m;rw[aL]at m;exact⟨_,P,Q,m⟩
    have XE:e=(gt L k).c.es.length:=by omega
    have yj:hP (jn l.length) (cs L) k.toNat e.toNat=hM (jn l.length) (cs L) (k+1).toNat:=by rw[show(k+1).toNat=k.toNat+1 by omega];exact afy (by rw[D0];exact u) (by rw[D0];omega)
    rw[yj]at a;simp[O];refine gd ?_;refine LJ.i (f,k+1,bad,P7) (by simp) rfl rfl rfl ?_;exact⟨by dsimp only;omega,iy,E.symm,by dsimp only;omega,ow,P,Q,a.nob⟩
   .rw[decide_eq_false BO]at u;have V:(l.length:Int)<(gt L k).c.hi:=by omega
    simp only[u,Bool.not_false,if_true]at E
    have hX:(gR (gt L k)).take 36++(D.i 0::D.i 0::D.i 0::D.gg::AL.cl fU (zs 32)).drop (min 36 (gR (gt L k)).length)=gR (gt L k):=by rw[q,s];simp
    simp[s,q,hX,B,z,V];(with_reducible repeat' first|refine Xk ?_<;>try simp[s,q,hX,B,z,V]|refine Xs ?_ ?_<;>intro h<;>(try intro Y)<;>(try simp[h,s,q,hX,B,z,V])<;>try omega|refine Xg ?_|omega);rcases a.bd with⟨rfl,rfl⟩|⟨BE,v,gn,rfl,G,vC⟩
    .simp;refine gd ?_;refine LJ.i (_,k+1,[k],.fY (Hc.length+2) 0 1 0 1) (by simp) rfl rfl rfl ?_;refine⟨by dsimp only;omega,iy,E.symm,by simp;omega,?_⟩;dsimp only;rw[Ny u,hX];have m:=(a.more (o:=.row 72 0 (gR (gt L k))) (Ax Z) (7,0,0)).more (o:=.row 3 0 [.i k]) rfl (7,0,0);obtain⟨o4,DP⟩:=m.UW k;exact⟨o4,P,Q,by simpa[rA,iQ]using DP⟩
    .have zS:∀R:U,(Hc++R)[v]? = some (.row 3 gn (AL.cl f1 bad)):=λR=>iv G;have GZ:∀(R:U) (o:Ob),(Hc++R).set v o=Hc.set v o++R:=λR o=>aM _ _ (jr G);simp[zS,GZ];refine lh zS GZ ?_;refine LJ.i (_,k+1,bad ++ [k],.fY v (gn+1) 1 0 (bad.length+1)) (by simp) rfl rfl rfl ?_;refine⟨by dsimp only;omega,iy,E.symm,by simp;omega,?_⟩;dsimp only;rw[Ny u,hX];have m:=((a.UX (k:=k) BE G vC).more (o:=.row 72 0 (gR (gt L k))) (Ax Z) (7,0,0)).more (o:=.row 3 0 [.i k]) rfl (7,0,0);exact⟨_,P,Q,by simpa using m⟩
 have vK:k=L.length:=by omega
 subst vK;rw[bt]at a BF;rw[<-BF];simp;refine gd ?_;exact⟨ow,P,Q,a⟩
end Go.Proofs.YtmehofoficaelaaGreatDoor
namespace Go.Proofs.YtmehofoficaelaaGreatDoor
open Go Go.AL Classical
set_option maxRecDepth 10000
set_option maxHeartbeats 4000000
theorem U5{n:Nat}{N:Int->Int}{K:Int->Prop}(c:∀i,K i->(0<=i/\i<n)/\0<=N i)(h:∀i,K i->N i=0\/∃k,K k/\N k=N i-1):∀i,K i->N i<n:=by
 have b:∀(a:Nat) (i:Int),K i->N i=a->∀m:Nat,m<=a->∃q,K q/\N q=m:=by
  intro a
  induction a with
  | zero=>exactλi hi e m j=>⟨i,hi,by omega⟩
  | succ a d=>
   intro i hi e m j
   by_cases em:m=a+1
   .exact⟨i,hi,by omega⟩
   rcases h i hi with h1|⟨k,l,h1⟩
   .omega
   .exact d k l (by omega) m (by omega)
 intro i hi;have h0:=c i hi
 have:=Io (fh (n:=(N i).toNat+1)) (m:=(upto n).map λk=>(N k).toNat) λx f=>by obtain⟨q,g,e⟩:=b (N i).toNat i hi (by omega) x (by have:=bj.1 f;omega);exact ar.2 ⟨q,jc.2 (c q g).1,by rw[e];rfl⟩
 simp[upto]at this;omega
theorem ahh{A:mg}{n:Nat}{v:List fZ}(hS:∀i:Int,0<=i->i<n->∀k∈gt A.nx i,0<=k/\k<n)(h:∀i:Int,0<=i->i<n->kA A v i){i:Int}(i0:0<=i)(e:i<n):0<=(gt v i).2/\(gt v i).2<n:=by
 refine⟨(h i i0 e).n0,U5 (N:=λi=>(gt v i).2) (K:=λi=>0<=i/\i<n) (λi hi=>⟨hi,(h i hi.1 hi.2).n0⟩) (λi hi=>?_) i ⟨i0,e⟩⟩;rcases h i hi.1 hi.2 with⟨_,b⟩|⟨_,⟨a,f,b,⟨k,c,d⟩,_⟩|⟨a,f,b,_,k,c,d⟩|⟨b,_⟩⟩
 .left;rw[b]
 .right;exact⟨k,hS i hi.1 hi.2 k c,by rw[b,d]⟩
 .right;exact⟨k,hS i hi.1 hi.2 k c,by rw[b,d]⟩
 .left;rw[b]
def kV(v:List Kn):List fZ:=v.map λx=>(x.1,x.2.1)
def kB(v:List Kn):List Bool:=v.map λx => !x.2.2
theorem Bo{v:List Kn}{k:Int}(k0:0<=k)(k1:k<v.length):gt (kV v) k=((gt v k).1,(gt v k).2.1):=by rw[jg k0 (by unfold kV;rw[List.length_map];exact k1),jg k0 k1];unfold kV;rw[List.getElem_map]
theorem wX{v:List Kn}{k:Int}(k0:0<=k)(k1:k<v.length):gt (kB v) k = !(gt v k).2.2:=by rw[jg k0 (by unfold kB;rw[List.length_map];exact k1),jg k0 k1];unfold kB;rw[List.getElem_map]
@[local simp] theorem awg:max (0:Int) (-1)=0:=by decide
noncomputable def pL(v:List Kn)(x:List Int)(n:Int):Kn:=if Cc (kV v) (kB v) x n then(1,n,true)else if (lO (kV v) (kB v) x x.length).1=x.length/\(lO (kV v) (kB v) x x.length).2=n-1 then(3,n,true)else(0,0,false)
theorem Wu(v:List Kn)(l:List Int)(n:Int)(B:1<=n/\n<=4000)(h0:0<l.length)(hl:l.length<2 ^ 40)(p:∀k∈l,0<=k/\k<v.length)(z:∀k∈l,(gt v k).2.2=true->0<=(gt v k).2.1) :
  Wf T 129 [.sl 3 (v.map fK),dI l,.i n] [] (Is (.agg [.i (pL v l n).1,.i (pL v l n).2.1,.b (pL v l n).2.2])):=by
 refine Yg LY ?_;simp[LY];refine gj.e (0:Int) (λy=>[(0,.sl 3 (v.map fK)),(1,dI l),(2,.i n),(6,.ptr 0 0 0),(7,.i (lO (kV v) (kB v) l y.toNat).1),(8,.i (max 0 (lO (kV v) (kB v) l y.toNat).2)),(9,.i y)]) (λy=>[.row 245 0 [.i 0,.i 0,.b false]]) (λy=>0<=y/\y<=l.length/\∀k∈l.take y.toNat,¬(gt (kB v) k=false/\gt (kV v) k=(3,n-1))) (λy=>(l.length-y).toNat) ?_ ?_
 .simp
 rintro j ⟨j0,j1,j2⟩;dsimp only at j0 j1 j2 ⊢
 by_cases f:j<l.length
 .have a:=p _ (gy j0 f);have c:=aoK (v:=kV v) (b:=kB v) (x:=l) j0;have hV:=Bo a.1 a.2;have g:=wX a.1 a.2;have w:=Pu (kV v) (kB v) l j.toNat
  have d:¬(gt (kB v) (gt l j)=false/\gt (kV v) (gt l j)=(3,n-1))->∀k∈l.take (j+1).toNat,¬(gt (kB v) k=false/\gt (kV v) k=(3,n-1)):=λh k a=>by
   rw[jq j0 f]at a;rcases List.mem_append.1 a with a|a
   .exact j2 k a
   .rw[List.mem_singleton.1 a];exact h
  rw[hV,g]at d c;simp[f];generalize gt v (gt l j)=r at *;obtain⟨o,m,s⟩:=r;dsimp only at d c hV g ⊢;(with_reducible repeat' first|refine Xk ?_<;>try simp|refine Xs ?_ ?_<;>intro h<;>(try intro A)<;>(try simp[h])<;>try omega|refine Xg ?_|omega)
  .have hl:Cc (kV v) (kB v) l n:=⟨_,gy j0 f,by rw[g];simp[*],by rw[hV];simp[*]⟩;simp[pL,hl]
  .refine LJ.i (j+1) (by first|rfl|simp[c, *]) (by first|rfl|simp[c, *]) rfl rfl ?_;exact gO (d (by simp[*]))
  .refine LJ.i (j+1) (by first|rfl|simp[c, *]) (by first|rfl|simp[c, *]) rfl rfl ?_;exact gO (d (by simp[*]))
  .refine LJ.i (j+1) (by first|rfl|simp[c, *]) (by first|rfl|simp[c, *]) rfl rfl ?_;exact gO (d (by simp[*]))
 .have u:j=l.length:=by omega
  subst u;have hl:¬Cc (kV v) (kB v) l n:=λ⟨k,a,h⟩=>j2 k (by rw[ln (by omega)];exact a) h
  have i:(lO (kV v) (kB v) l l.length).1=l.length->max 0 (lO (kV v) (kB v) l l.length).2=(lO (kV v) (kB v) l l.length).2:=λe=>by have h1:=Pv _ e 0 h0;have t:=TV _ e 0 h0;have q:=gy (l:=l) (n:=((0:Nat):Int)) (by omega) (by omega);have a:=p _ q;rw[wX a.1 a.2]at t;rw[Bo a.1 a.2]at h1;have:=z _ q (by simpa using t.1);dsimp only at h1;omega
  simp[f];(with_reducible repeat' first|refine Xk ?_<;>try simp|refine Xs ?_ ?_<;>intro h<;>(try intro A)<;>(try simp[h])<;>try omega|refine Xg ?_|omega)
  .rw[i ‹_›]at h;simp[pL,hl, *]
  .rw[i ‹_›]at h;simp[pL,hl, *]
  .simp[pL,hl, *]
set_option maxHeartbeats 8000000
theorem aeR(g:gi)(hg:gV g)(l:List Pos)(b:pa g l)(h0:0<l.length)(v:List fZ)(q:v.length=l.length)(t:∀k:Int,0<=k->k<v.length->0<=(gt v k).2/\(gt v k).2<=4000) :
  Wf T 42 [dG g,gZ l,gY v] [] (Ey (λn:Int=>.tup [.i n,.i 0]) λn=>n<0↔∀k:Int,0<=k->k<l.length->kA (jT g l (gC g l)) v k):=by
 have s:=b.len;have E:(gC g l).length=l.length:=by simp[gC]
 have gH:=λi i0 f=>(ru b (i:=i) i0 f).2
 have x:∀k:Int,0<=k->k<l.length->(gt (gC g l) k).length<=4000000000:=λk k0 k1=>by rw[(ru b k0 k1).1,List.length_map];have:=Au hg (b.ok _ (gy k0 k1));omega
 refine Yg LG ?_;simp[LG];refine Yc (f52 g hg l b h0) ?_;simp;(with_reducible repeat' first|refine Xk ?_<;>try simp|refine Xs ?_ ?_<;>intro h<;>(try intro D)<;>(try simp[h])<;>try omega|refine Xg ?_|omega);refine gj.e (0:Int) (λy=>[(2,gY v),(3,.ptr 0 0 0),(8,.sl 1 ((gC g l).map fN)),(30,gZ l),(31,.i l.length),(32,.i y)]) (λy=>[.row 43 0 g.cells]) (λy=>(0<=y/\y<=l.length)/\∀k:Int,0<=k->k<y->kA (jT g l (gC g l)) v k) (λy=>(l.length-y).toNat) ?_ ?_
 .exact⟨by simp,λk k0 k1=>by omega⟩
 rintro i ⟨⟨i0,f⟩,j⟩;dsimp only at i0 f j ⊢
 have p:kA (jT g l (gC g l)) v i->∀k:Int,0<=k->k<i+1->kA (jT g l (gC g l)) v k:=λh k k0 k1=>by
  by_cases e:k=i
  .rw[e];exact h
  .exact j k k0 (by omega)
 by_cases hi:i<l.length
 .have C:=b.ok _ (gy i0 hi)
  have o:¬kA (jT g l (gC g l)) v i->Ex (λn:Int=>.tup [.i n,.i 0]) (λn=>n<0↔∀k:Int,0<=k->k<l.length->kA (jT g l (gC g l)) v k) (.tup [.i i,.i 0]) []:=λh=>
   ⟨i,rfl,rfl,⟨λc=>by omega,λc=>absurd (c i i0 hi) h⟩⟩
  simp[hi,x6];refine gd ?_;refine Yq (f56 v (gt (gC g l) i) (λk d=>by rw[q];exact gH i i0 hi k d) (x i i0 hi) (λk k0 k1=>t k k0 k1)) λr B=>?_;simp;refine gd ?_;refine Yc (f54 g hg (gt l i) C) ?_;simp;have w:(stat g (gt l i)).2=true->(kA (jT g l (gC g l)) v i↔gt v i=((stat g (gt l i)).1,0)):=λh=>ahj (A:=jT g l (gC g l)) h;have u:(stat g (gt l i)).2=false->(kA (jT g l (gC g l)) v i↔gt v i=r):=λh=>Dg.iff (A:=jT g l (gC g l)) (λk d=>(t k (gH i i0 hi k d).1 (by rw[q];exact(gH i i0 hi k d).2)).1) h B;(with_reducible repeat' first|refine Xk ?_<;>try simp|refine Xs ?_ ?_<;>intro h<;>(try intro D)<;>(try simp[h])<;>try omega|refine Xg ?_|omega)
  .have a:=(w ‹_›).2 (cL (by assumption) (by assumption));refine LJ.e (i+1) ?_;exact⟨by omega,iy,p a⟩
  .have a:¬kA (jT g l (gC g l)) v i:=λh=>absurd ((w ‹_›).1 h) (by intro e;simp_all);obtain⟨n,h1,c,m⟩:=o a;exact Ey.i n h1 c m
  .have a:=(u (by simp_all)).2 (cL (by simp_all) (by simp_all));refine LJ.e (i+1) ?_;exact⟨by omega,iy,p a⟩
  .have a:¬kA (jT g l (gC g l)) v i:=λh=>absurd ((u (by simp_all)).1 h) (by intro e;simp_all);obtain⟨n,h1,c,m⟩:=o a;exact Ey.i n h1 c m
 .have z:i=l.length:=by omega
  subst z;simp;refine gd ?_;exact Ey.i (-1) rfl rfl ⟨λ_=>j,λ_=>by omega⟩
end Go.Proofs.YtmehofoficaelaaGreatDoor
namespace Go.Proofs.YtmehofoficaelaaGreatDoor
open Go Go.AL Classical
set_option maxRecDepth 10000
set_option maxHeartbeats 16000000
attribute [-simp] uL
theorem acw{l:List fZ}{n:Int}(n0:0<=n)(h:n<l.length)(a:Int):(cl fS l).take (n.toNat*2) ++ .i a::(cl fS l).drop (n.toNat*2+1)=cl fS (pt l n (a,(gt l n).2)):=by
 have e:(cl fS l).drop (n.toNat*2+1) = .i (gt l n).2::(cl fS l).drop (n.toNat*2+2):=by
  have h1:(cl fS l).drop (n.toNat*2) = .i (gt l n).1 :: .i (gt l n).2::cl fS (l.drop (n.toNat+1)):=by rw[uK,oc n0 h,nM,Bi];rfl
  have b:(cl fS l).drop (n.toNat*2+2)=cl fS (l.drop (n.toNat+1)):=by rw[show n.toNat*2+2=(n.toNat+1)*2 by omega,uK]
  rw[b,<-b6,h1];rfl
 rw[e];exact F9 a _
theorem Ir{n:Nat}{H G:U}(h:jj H.length H)(a:n=H.length)(b:jj n G):jj (H++G).length (H++G):=by subst a;rw[ak];exact uk (xq (by omega) h) (xq (by omega) b)
section
variable{H:U}{ck sr n:Nat}{M:Nat->kh}{ow:Nat->Nat×Nat×Nat}{P:Nat->Nat}{Q:Nat->Nat->Nat}{cells:List D}
theorem mj.app(h:mj H ck sr n M ow P Q)(G:U):mj (H++G) ck sr n M ow P Q:=h.mono λ_ _ a _=>iv a
theorem Wg(l:mj H ck sr n M ow P Q)(gf:jj H.length H)(h:H[ck]? = some (.row 168 0 cells))(f:cells[12]? = some (.fY sr 0 1 0 n))
  {cm:List gK} (u:cm.length<=100000) {i:Int} (i0:0<=i) (j:i<n) (hM:M i.toNat=gM cm i) {t2 t3:Nat} (b:H[t2]? = some (.row 157 0 [.ptr ck 0 0])) (a:H[t3]? = some (.row 3 0 [.i i])) (q:fZ) :
  Wf T 186 [.agg [.i q.1,.i q.2],.ptr t2 0 0,.ptr t3 0 0] H (λd H'=>d=dN 1 f1 (kf (λc=>jK c i&&decide (kI c i≠q)) cm cm.length)/\H'=H):=by
 have g:∀R:U,(H++R)[t2]? = some (.row 157 0 [.ptr ck 0 0]):=λR=>iv b;have e:∀R:U,(H++R)[t3]? = some (.row 3 0 [.i i]):=λR=>iv a;refine Yg JZ ?_;simp[JZ,g,e];refine gx.kH rfl rfl (Qk (H:=H ++ [.row 86 0 [.i q.1,.i q.2]]) (l.app _) (Ir gf rfl λo m=>by rw[List.mem_singleton.1 m];rfl) (iv h) f u i0 j hM (w:=λr=>decide (r≠q)) λr dst s K p k=>?_) ?_
 .have t:=p H.length (.row 86 0 [.i q.1,.i q.2]) (by simp);exact Yr (aep r q) k rfl rfl (by simp[t])
 .rintro _ H' ⟨rfl,rfl⟩;simp[wh gf]
end
end Go.Proofs.YtmehofoficaelaaGreatDoor
namespace Go.Proofs.YtmehofoficaelaaGreatDoor
open Go Go.AL Classical
set_option maxRecDepth 10000
set_option maxHeartbeats 16000000
attribute [-simp] uL
def qu(cm:List gK)(m j k:Int)(V:List fZ)(seen:List Nat):List fZ:=if seen≠[]/\(gM cm j).length=1/\(nA (sd cm j)).2<m then pt (pt V k (2,0)) k (nA (sd cm j))else pt V k (2,0)
@[simp] theorem aoG(cm:List gK)(m j k:Int)(V:List fZ):qu cm m j k V []=pt V k (2,0):=if_neg λh=>h.1 rfl
section
variable{cm:List gK}{m j k:Int}{V:List fZ}{seen:List Nat}
theorem abi(k0:0<=k)(k1:k<V.length):(qu cm m j k V seen).length=V.length:=by
 unfold qu;have h:=iP (l:=V) (v:=((2,0):fZ)) k0 k1;split
 .rw[iP k0 (by omega),h]
 .exact h
theorem abj(k0:0<=k)(k1:k<V.length){i:Int}(i0:0<=i)(h:i≠k):gt (qu cm m j k V seen) i=gt V i:=by
 unfold qu;have hl:=iP (l:=V) (v:=((2,0):fZ)) k0 k1;split
 .rw[pR k0 (by omega) i0,if_neg h,pR k0 k1 i0,if_neg h]
 .rw[pR k0 k1 i0,if_neg h]
theorem aoF(k0:0<=k)(k1:k<V.length)(hs:sd cm j≠[])(d:∀t,t<(gM cm j).length->t∈seen):gt (qu cm m j k V seen) k=x4 cm m j:=by
 unfold qu x4;have hl:=iP (l:=V) (v:=((2,0):fZ)) k0 k1;have f:(gM cm j).length≠0:=λh=>hs (Nr.1 h)
 have b:seen≠[]:=λh=>by have:=d 0 (by omega);rw[h]at this;cases this
 have a:(gM cm j).length=1↔mM (sd cm j)=false:=by
  have:=GF (cl:=cm) (i:=j)
  cases e:mM (sd cm j)with
  | true=>
   rw[e]at this;constructor
   .intro h;have:=this.2 rfl;omega
   .intro h;cases h
  | false=>
   rw[e]at this;constructor
   .intro _;rfl
   .intro _;have g:¬ 1<(gM cm j).length:=λh=>by cases this.1 h
    omega
 by_cases c:mM (sd cm j)=false/\(nA (sd cm j)).2<m
 .rw[if_pos c,if_pos ⟨b,a.2 c.1,c.2⟩,pR k0 (by omega) k0,if_pos rfl]
 .rw[if_neg c,if_neg λh=>c ⟨a.1 h.2.1,h.2.2⟩,pR k0 k1 k0,if_pos rfl]
end
section
variable{H:U}{ck sr n:Nat}{M:Nat->kh}{ow:Nat->Nat×Nat×Nat}{P:Nat->Nat}{Q:Nat->Nat->Nat}
theorem aeb(g:gi)(hg:gV g)(l:List Pos)(hc:pa g l){dcl:D}(px:n=l.length)(J:mj H ck sr n M ow P Q)(gf:jj H.length H)(X:H[ck]? = some (.row 168 0 (ko g l (gC g l) dcl (.fY sr 0 1 0 n))))
  {cm:List gK} (h8:cm.length<=100000) {i:Int} (i0:0<=i) (I:i<n) (hM:∀j,j<n->M j=gM cm j)
  (hp:∀j:Int,0<=j->j<l.length->∀r∈sd cm j,lC r=true) (hb:∀j:Int,0<=j->j<l.length->∀r∈sd cm j,r.2<=4000) (hs:∀j:Int,0<=j->j<l.length->sd cm j≠[]) :
  Wf T 123 [.ptr ck 0 0,.i i] H (λd H'=>d=dN 1 f1 (kf (rF (jT g l (gC g l)) cm i) cm cm.length)/\H'=H):=by
 subst px;have g6:=hc.len;have vN:=hc.ok _ (gy i0 I);have Ab:(gC g l).length=l.length:=by simp[gC]
 have gH:=(ru hc (i:=i) i0 I).2;have ie:=(ru hc (i:=i) i0 I).1
 have sI:(gt (gC g l) i).length<=4000000000:=by rw[ie,List.length_map];have:=Au hg vN;omega
 have Eo:(stat g (gt l i)).2=false->0<(gt (gC g l) i).length:=λh=>by
  rw[ie,List.length_map];have:iS g (gt l i)≠[]:=λe=>by unfold stat at h;simp[e]at h
  exact ax.2 this
 have P1:=f54 g hg (gt l i) vN;obtain⟨m,hm⟩:∃m,me (sd cm i)=m:=⟨_,rfl⟩
 have vT:(stat g (gt l i)).2=true->∀c∈cm,(jK c i&&decide (kI c i≠((stat g (gt l i)).1,0)))=rF (jT g l (gC g l)) cm i c:=λh c _=>by unfold rF;rw[if_pos (show(jT g l (gC g l)).ov i=true from h)];rfl
 have F:(stat g (gt l i)).2=false->(nI ((gt (gC g l) i).map (x4 cm m))).1≠2->∀c∈cm,(jK c i&&decide (kI c i≠nI ((gt (gC g l) i).map (x4 cm m))))=rF (jT g l (gC g l)) cm i c:=λh f c _=>by unfold rF;rw[if_neg (by rw[show(jT g l (gC g l)).ov i=false from h];simp),hm,ZD,show gt (jT g l (gC g l)).nx i=gt (gC g l) i from rfl,if_pos f]
 have C:(stat g (gt l i)).2=false->(nI ((gt (gC g l) i).map (x4 cm m))).1=2->∀c∈cm,(jK c i&&decide ((kI c i).1≠2/\(kI c i).2=m))=rF (jT g l (gC g l)) cm i c:=λh f c _=>by unfold rF;rw[if_neg (by rw[show(jT g l (gC g l)).ov i=false from h];simp),hm,ZD,show gt (jT g l (gC g l)).nx i=gt (gC g l) i from rfl,if_neg (by rw[f];simp)]
 obtain⟨W,hW⟩:∃W,kf (rF (jT g l (gC g l)) cm i) cm cm.length=W:=⟨_,rfl⟩;have NA:∀p:gK->Bool,(∀c∈cm,p c=rF (jT g l (gC g l)) cm i c)->kf p cm cm.length=W:=λp h=>by rw[<-hW];exact YI (by omega) h
 rw[hW];obtain⟨nx,pX⟩:∃nx,gC g l=nx:=⟨_,rfl⟩;rw[pX]at X Ab gH sI Eo F C NA vT;obtain⟨st,gw⟩:∃st,stat g (gt l i)=st:=⟨_,rfl⟩;rw[gw]at P1 Eo vT F C;obtain⟨o,ov⟩:=st;dsimp only at P1 Eo vT F C;have qh:(ko g l nx dcl (.fY sr 0 1 0 l.length))[12]? = some (.fY sr 0 1 0 l.length):=by unfold ko;simp
 have v:∀R:U,(H++R)[ck]? = some (.row 168 0 [.i g.size,.sl 1 (g.next.map fI),dI g.jy,.sl 3 (g.kinds.map Kind.cells),.i g.gL,.b g.oK,dN 4 Clause.cells g.clauses,.i g.blocked,.i g.vo,gZ l,.sl 1 (nx.map fN),dcl,.fY sr 0 1 0 l.length]):=λR=>by rw[iv X];unfold ko;simp
 have Xv:=jr X;have hA:ni H.length (.row 157 0 [.ptr ck 0 0])=true:=by simp[Xv]
 have yf:∀(G:U),jj H.length G->jj (H++(Ob.row 157 0 [.ptr ck 0 0]::Ob.row 3 0 [.i i]::G)).length (H++(Ob.row 157 0 [.ptr ck 0 0]::Ob.row 3 0 [.i i]::G)):=λG hG=>Ir gf rfl λx J=>by
  rcases av.1 J with rfl|J
  .exact hA
  .rcases av.1 J with rfl|J
   .rfl
   .exact hG x J
 have GQ:∀j:Int,0<=j->j<l.length->M j.toNat=gM cm j:=λj j0 j1=>by have:=hM j.toNat (by omega);rwa [show(j.toNat:Int)=j by omega]at this
 refine Yg JQ ?_;simp[JQ,v];refine jP v ?_;refine Yt (P1) ?_;simp[v];cases ov
 .have Eo:=Eo rfl;have F:=F rfl;have C:=C rfl;obtain⟨x,Aj⟩:∃x,gt nx i=x:=⟨_,rfl⟩;rw[Aj]at gH sI Eo F C;simp;refine gd ?_;refine gx.w (by simp;rfl) ?_;refine gx.kH rfl rfl (Ql (H:=H ++ [.row 157 0 [.ptr ck 0 0],.row 3 0 [.i i]]) (J.app _) (yf [] λ_ h=>by cases h) (iv X) qh i0 I (GQ i i0 I) (hp i i0 I)) ?_;rintro _ H' ⟨rfl,rfl⟩;rw[hm];simp[v,Aj,x6];(with_reducible repeat' first|refine Xk ?_<;>try simp[v,Aj,x6]|refine Xs ?_ ?_<;>intro h<;>(try intro h')<;>(try simp[h,v,Aj,x6])<;>try omega|refine Xg ?_|omega)
  have hz:(List.replicate x.length [D.i 0,D.i 0]).flatten=AL.cl fS (List.replicate x.length (0,0)):=by rw[oC,dS,Bi]
  refine gj.s (by simp[hz];rfl) ?_;refine gj.e ((0,List.replicate x.length (0,0),[]):Int×List fZ×U) (λy=>[(2,.ptr H.length 0 0),(3,.ptr (H.length+1) 0 0),(5,.fn (.func 186) [] [.ptr H.length 0 0,.ptr (H.length+1) 0 0]),(8,.ptr (H.length+2) 0 0),(9,.fY (H.length+3) 0 2 0 x.length),(53,dN 1 f1 x),(54,.i x.length),(55,.i y.1)]) (λy=>H++(.row 157 0 [.ptr ck 0 0] :: .row 3 0 [.i i] :: .row 3 0 [.i m] :: .row 86 0 (AL.cl fS y.2.1)::y.2.2)) (λy=>(0<=y.1/\y.1<=x.length)/\y.2.1.length=x.length/\(∀j:Int,0<=j->j<y.1->gt y.2.1 j=x4 cm m (gt x j))/\(∀j:Int,y.1<=j->j<x.length->gt y.2.1 j=(0,0))/\jj H.length y.2.2) (λy=>(x.length-y.1).toNat) ?_ ?_
  .refine⟨by simp,by simp,λj j0 j1=>absurd j1 (by dsimp only;omega),λj j0 j1=>?_,λ_ h=>by cases h⟩;rw[jg j0 (by simpa using j1)];simp
  rintro⟨k,V,R⟩ ⟨⟨k0,k1⟩,hV,zQ,Q8,hR⟩;dsimp only at k0 k1 hV zQ Q8 hR ⊢
  by_cases hk:k<x.length
  .obtain⟨j,Y⟩:∃j,gt x k=j:=⟨_,rfl⟩;have a:=gH _ (gy k0 hk);rw[Y]at a;have Hw:=acw k0 (by omega:k<V.length) 2;rw[Q8 k (by omega) hk]at Hw;obtain⟨p1,_⟩:=J.mp j.toNat (by omega);rw[GQ j a.1 a.2]at p1;have E:∀R:U,(H++R)[sr]? = some (.row 170 0 ((List.range l.length).map λj=>D.gD (P j))):=λR=>iv J.row;obtain⟨p,B⟩:∃p,P j.toNat=p:=⟨_,rfl⟩;obtain⟨q,yw⟩:∃q,Q j.toNat=q:=⟨_,rfl⟩;rw[B,yw]at p1;have A:∀R:U,(H++R)[p]? = some (.map KS (iV q 0 (gM cm j))):=λR=>iv p1;have iF:=jr p1;simp[hk,Y,v,Hw,E,B,A,a.1,a.2];(with_reducible repeat' first|refine Xk ?_<;>try simp[hk,Y,v,Hw,E,B,A,a.1,a.2]|refine Xs ?_ ?_<;>intro h<;>(try intro h')<;>(try simp[h,hk,Y,v,Hw,E,B,A,a.1,a.2])<;>try omega|refine Xg ?_|omega);refine gj.s (by simp[Hw];rfl) ?_;refine gj.e (([],[]):List Nat×U) (λz=>[(2,.ptr H.length 0 0),(3,.ptr (H.length+1) 0 0),(5,.fn (.func 186) [] [.ptr H.length 0 0,.ptr (H.length+1) 0 0]),(8,.ptr (H.length+2) 0 0),(9,.fY (H.length+3) 0 2 0 x.length),(10,.i k),(11,.i j),(53,dN 1 f1 x),(54,.i x.length),(55,.i k),(71,.ptr (H.length+(R.length+4)) 0 0)]) (λz=>H++(.row 157 0 [.ptr ck 0 0] :: .row 3 0 [.i i] :: .row 3 0 [.i m] :: .row 86 0 (AL.cl fS (qu cm m j k V z.1))::(R ++ .jl (.gD p) (gM cm j).length z.1::z.2))) (λz=>z.1.Nodup/\(∀t∈z.1,t<(gM cm j).length)/\jj H.length z.2) (λz=>(gM cm j).length-z.1.length) ?_ ?_
   .exact⟨.nil,λ_ h=>(by cases h),λ_ h=>(by cases h)⟩
   rintro⟨seen,Z⟩ ⟨lS,gG,hZ⟩;dsimp only at lS gG hZ ⊢;simp;refine uE.at (m:=p) (since:=(gM cm j).length) (seen:=seen) (kk:=KS) (es:=iV q 0 (gM cm j)) (by simp) (by simp[A]) (by simp) (λjo=>?_) λt kv dv he hi=>?_
   .have jo:∀t,t<(gM cm j).length->t∈seen:=by simpa using jo
    simp;refine gd ?_;refine LJ.i (k+1,qu cm m j k V seen,R ++ .jl (.gD p) (gM cm j).length seen::Z) (by simp) (by simp) rfl rfl ?_;refine⟨by dsimp only;omega,iy,by rw[abi k0 (by omega)];exact hV,λi' h0 h1=>?_,λi' h0 h1=>?_,uk hR λo b=>?_⟩
    .dsimp only at h1 ⊢
     by_cases e:i'=k
     .subst e;rw[Y];exact aoF k0 (by omega) (hs j a.1 a.2) jo
     .rw[abj k0 (by omega) h0 e];exact zQ i' h0 (by omega)
    .dsimp only at h0 ⊢;rw[abj k0 (by omega) (by omega) (by omega)];exact Q8 i' (by omega) h1
    .rcases av.1 b with rfl|b
     .show decide (p<H.length)=true;exact decide_eq_true iF
     .exact hZ o b
   .rw[vq]at he;obtain⟨y,tW,HM⟩:=aj.1 he;cases HM;have S:=IN lS gG (ae.1 tW).1 hi;have N:(iV q 0 (gM cm j))[t]? = some (lA y.1,oI (q t) y.2):=by rw[vq,tW];simp
    have e:(H++(Ob.row 157 0 [.ptr ck 0 0]::Ob.row 3 0 [.i i]::Ob.row 3 0 [.i m]::Ob.row 86 0 (AL.cl fS (qu cm m j k V seen))::(R++Ob.jl (.gD p) (gM cm j).length seen::Z))).set (H.length+(R.length+4)) (.jl (.gD p) (gM cm j).length (seen ++ [t]))=H++(Ob.row 157 0 [.ptr ck 0 0]::Ob.row 3 0 [.i i]::Ob.row 3 0 [.i m]::Ob.row 86 0 (AL.cl fS (qu cm m j k V seen))::(R++Ob.jl (.gD p) (gM cm j).length (seen ++ [t])::Z)):=by simp
    rw[e]
    have uS:(gM cm j).length-(seen ++ [t]).length<(gM cm j).length-seen.length:=by have:=S.2.2;rw[ak,aY]at this ⊢;omega
    have iH:=abi (cm:=cm) (m:=m) (j:=j) (seen:=seen) k0 (by omega:k<V.length)
    by_cases h1:(gM cm j).length=1
    .have R2:t=0:=by have:=(ae.1 tW).1;omega
     have tc:seen = []:=aT.2 λu hu=>by have:=gG u hu;rw[show u=t by omega]at hu;exact hi hu
     have hy:y.1=nA (sd cm j):=W2 (by
      obtain⟨z,hz⟩:=fG.1 h1;rw[hz,R2]at tW;cases tW
      exact hz)
     subst tc;obtain⟨⟨O,L⟩,ls⟩:=y;dsimp only at hy N
     by_cases f:L<m
     .have hv:qu cm m j k V ([] ++ [t])=pt (pt V k (2,0)) k (O,L):=by unfold qu;rw[if_pos ⟨by simp,h1,by rw[<-hy];exact f⟩,hy]
      have B0:=F9 (l:=pt V k (2,0)) (n:=k) O L;simp[A,N,v,E,B,a.1,a.2,h1,f,B0];(with_reducible repeat' first|refine Xk ?_<;>try simp[A,N,v,E,B,a.1,a.2,h1,f,B0]|refine Xs ?_ ?_<;>intro h<;>(try intro h')<;>(try simp[h,A,N,v,E,B,a.1,a.2,h1,f,B0])<;>try omega|refine Xg ?_|omega);rw[aoG]at iH;refine⟨by rw[iH];omega,?_⟩;refine LJ.i ([] ++ [t],Z ++ [.row 86 0 [.i O,.i L]]) (by simp) (by rw[hv];simp[h1]) rfl rfl ?_;exact⟨uS,S.1,S.2.1,uk hZ λo b=>by rw[List.mem_singleton.1 b];rfl⟩
     .have hv:qu cm m j k V ([] ++ [t])=pt V k (2,0):=by unfold qu;rw[if_neg λh=>f (by have:=h.2.2;rw[<-hy]at this;exact this)]
      simp[A,N,v,E,B,a.1,a.2,h1,f];(with_reducible repeat' first|refine Xk ?_<;>try simp[A,N,v,E,B,a.1,a.2,h1,f]|refine Xs ?_ ?_<;>intro h<;>(try intro h')<;>(try simp[h,A,N,v,E,B,a.1,a.2,h1,f])<;>try omega|refine Xg ?_|omega);refine LJ.i ([] ++ [t],Z ++ [.row 86 0 [.i O,.i L]]) (by simp) (by rw[hv];simp[h1]) rfl rfl ?_;exact⟨uS,S.1,S.2.1,uk hZ λo b=>by rw[List.mem_singleton.1 b];rfl⟩
    .have hv:qu cm m j k V (seen ++ [t])=qu cm m j k V seen:=by unfold qu;rw[if_neg λh=>h1 h.2.1,if_neg λh=>h1 h.2.1]
     simp[A,N,v,E,B,a.1,a.2,h1];(with_reducible repeat' first|refine Xk ?_<;>try simp[A,N,v,E,B,a.1,a.2,h1]|refine Xs ?_ ?_<;>intro h<;>(try intro h')<;>(try simp[h,A,N,v,E,B,a.1,a.2,h1])<;>try omega|refine Xg ?_|omega);refine LJ.i (seen ++ [t],Z ++ [.row 86 0 [.i y.1.1,.i y.1.2]]) (by simp) (by simp[hv]) rfl rfl ?_;exact⟨uS,S.1,S.2.1,uk hZ λo b=>by rw[List.mem_singleton.1 b];rfl⟩
  have vK:k=x.length:=by omega
  have zR:V=x.map (x4 cm m):=by refine br (by rw[List.length_map];exact hV) λj j0 j1=>?_;have h:=zQ j (by omega) (by omega);rw[jg (by omega) (by omega),jg (l:=x) (by omega) (by omega)]at h;rw[List.getElem_map];exact h
  rw[<-zR]at F C
  have GV:∀r∈V,0<=r.2/\r.2<=4000:=λr hr=>by
   rw[zR]at hr;obtain⟨j,Y,rfl⟩:=ar.1 hr;have a:=gH j Y;unfold x4;split
   .have hf:=DF (hs j a.1 a.2);have h1:=hp j a.1 a.2 _ hf;have f:=hb j a.1 a.2 _ hf;refine⟨?_,f⟩;unfold lC at h1;simp only[decide_eq_true_eq]at h1;rcases h1 with e|e
    .rw[e];decide
    .exact e.2
   .exact⟨by decide,by decide⟩
  have a':=aee V (by omega) (by omega) GV;obtain⟨r,hr⟩:∃r,nI V=r:=⟨_,rfl⟩;rw[hr]at a' F C;obtain⟨O,L⟩:=r;dsimp only at a' F C;simp[hk];refine gd ?_;refine Yr a' ?_ rfl rfl (by simp[hV]) (by simp[flat,tF]) (by simp)
  have hG:jj H.length (Ob.row 3 0 [.i m]::Ob.row 86 0 (AL.cl fS V)::(R ++ [Ob.row 86 0 [.i O,.i L]])):=λo b=>by
   rcases av.1 b with rfl|b
   .rfl
   .rcases av.1 b with rfl|b
    .exact yN _
    .rcases List.mem_append.1 b with b|b
     .exact hR o b
     .rw[List.mem_singleton.1 b];rfl
  by_cases f:O=2
  .subst f;have C:=C rfl;simp;refine gd ?_;refine gx.w (by simp;rfl) ?_;refine gx.kH rfl rfl (Qk (H:=H++(.row 157 0 [.ptr ck 0 0] :: .row 3 0 [.i i] :: .row 3 0 [.i m] :: .row 86 0 (AL.cl fS V)::(R ++ [.row 86 0 [.i 2,.i L]]))) (J.app _) (yf _ hG) (iv X) qh h8 i0 I (GQ i i0 I) (w:=λr=>decide (r.1≠2/\r.2=m)) λr dst s K jF k'=>?_) ?_
   .have hb:=jF (H.length+2) (.row 3 0 [.i m]) (by simp);exact Yr (aeq r m) k' rfl rfl (by simp[hb])
   .rintro _ H' ⟨rfl,rfl⟩;rw[NA _ C];simp[wh gf]
  .have F:=F f;simp[f];refine jP f ?_;have F3:=Wg (H:=H++(.row 157 0 [.ptr ck 0 0] :: .row 3 0 [.i i] :: .row 3 0 [.i m] :: .row 86 0 (AL.cl fS V)::(R ++ [.row 86 0 [.i O,.i L]]))) (J.app _) (yf _ hG) (iv X) qh h8 i0 I (GQ i i0 I) (t2:=H.length) (t3:=H.length+1) (by simp) (by simp) (O,L);rw[NA _ F]at F3;refine gx.w (by simp;rfl) ?_;refine gx.kH rfl rfl F3 ?_;rintro _ H' ⟨rfl,rfl⟩;simp[wh gf]
 .have vT:=vT rfl;have F3:=Wg (H:=H ++ [.row 157 0 [.ptr ck 0 0],.row 3 0 [.i i]]) (J.app _) (yf [] λ_ h=>by cases h) (iv X) qh h8 i0 I (GQ i i0 I) (t2:=H.length) (t3:=H.length+1) (by simp) (by simp) (o,0);rw[NA _ vT]at F3;simp;refine gd ?_;refine gx.w (by simp;rfl) ?_;refine gx.kH rfl rfl F3 ?_;rintro _ H' ⟨rfl,rfl⟩;simp[wh gf]
