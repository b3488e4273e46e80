/- 7 -/
import Derived.Test.YtmehofoficaelaaGreatDoorV06
import Derived.KernelRfl
set_option linter.all false
open Option renaming some→aE,none→bb
open List renaming getElem?_eq_getElem→bs,all_eq_true→cc,mem_singleton→ep,getElem?_range'→eK,range→e8,replicate→fa,length→List.l
open Nat renaming le_refl→b4,le_trans→di
open Go renaming Oper→cp,FuncId→dx,Program→eh,wpListIn→ek,World→en,Value→ez,Act→eB,wpIn_region_any→eL
open Bool renaming true→dr,false→er
namespace Go.AL
open Go
def outs(R:ph->Prop):Out->Prop:=λo=>R (.out o)
def Fo(R:ph->Prop):D->gd->Prop:=λd H=>R (.val d H)
def Good(P:eh)(G:GT):AY->(ph->Prop)->Prop
 | .ops l s,R=>∀(N:Nat) (A:Array cp) (ops:List cp),pM P G N A ops=aE l ->
   ∀(e:Option Nat) (n:Nat) (Q:Exit->eB->en->Prop) (c:Ctx) (w:en) (a:eB),(s.iG=er->e=bb)->lD G N c w s a->xM G N s.H.l s.iG c s.H w (outs R) Q->ek (FW e) n P A Q ops a w
 | .code ir s,R=>∀(N:Nat) (code:Code),oa P G N ir code ->
   ∀(e:Option Nat) (n:Nat) (Q:Exit->eB->en->Prop) (c:Ctx) (w:en) (a:eB),(s.iG=er->e=bb)->lD G N c w s a->xM G N s.H.l s.iG c s.H w (outs R) Q->code.wpIn (FW e) n P Q a w
 | .loop n0 _ ir s,R=>n0<=s.H.l->∀(N:Nat) (code:Code),oa P G N ir code ->
   ∀(e:Option Nat) (n:Nat) (Q:Exit->eB->en->Prop) (c:Ctx) (w:en) (a:eB),(s.iG=er->e=bb)->lD G N c w s a->xM G N n0 s.iG c s.H w (outs R) Q->Mf (FW e) n P code Q a w
 | .call f args H,R=>vc P G f args H (Fo R)
 | .trace l s,R=>∃rs d,R (.tr rs d)/\s.H.l<=d.H.l/\d.marks=s.marks/\d.iG=s.iG/\∀(K k0:Nat),d.H.l<=K->∃b:List mN,b.map (·.e)=l/\b.map (·.rc)=rs/\b.map (·.k)=List.range' k0 l.l /\
   Tx (CC P G) s.env.get (s.H++room (K-s.H.l)) b d.env.get (d.H++room (K-d.H.l))
section
variable{P:eh}{G:GT}{T:iF}
theorem xM.mono{N n m:Nat}{iG:Bool}{c b:Ctx}{H H1:gd}{w w1:en}{R:Out->Prop}{Q:Exit->eB->en->Prop}(h:xM G N n iG c H w R Q)(hs:Step n c H w b H1 w1)(a:n<=m):xM G N m iG b H1 w1 R Q:=
 λo c' w' g e d hl gp f=>h o c' w' g e d (di a hl) gp (hs.trans f a)
theorem Gr{N:Nat}{A:Array cp}{o:cp}{r:List cp}{l:List il}(h:pM P G N A (o::r)=aE l) :
  ∃e a,l=e::a/\wW P G N A o=aE e/\pM P G N A r=aE a:=by
 simp only[pM]at h;split at h
 .grind
 .cases h
theorem ac4{N:Nat}{A:Array cp}{ops:List cp}(h:pM P G N A ops=aE []):ops = []:=by
 cases ops with
 | nil=>rfl
 | cons o r=>
  obtain⟨e,a,h1,_⟩:=Gr h;cases h1
theorem Vw{N:Nat}{A:Array cp}:∀ {l es:List il} {ops:List cp},pM P G N A ops=aE (l++es)->∃b a,ops=b++a/\pM P G N A b=aE l/\pM P G N A a=aE es
 | [],es,ops,h=>⟨[],ops,rfl,rfl,h⟩
 | e::l,es,ops,h=>by
  cases ops with
  | nil=>cases h
  | cons o r=>
   obtain⟨j,i,h1,g,f⟩:=Gr h;cases h1;obtain⟨b,a,rfl,d,c⟩:=Vw f;exact⟨o::b,a,rfl,by simp only[pM,g,d],c⟩
theorem Vx{N:Nat}{A:Array cp}:∀ {ops:List cp} {l:List il},pM P G N A ops=aE l->ops.l=l.l/\∀(i:Nat) (o:cp) (e:il),ops[i]? = aE o->l[i]? = aE e->wW P G N A o=aE e:=by
 intro ops
 induction ops with
 | nil=>intro l h;cases h;exact⟨rfl,λi o e h=>by simp at h⟩
 | cons o r f=>
  intro l h;obtain⟨e,g,rfl,h1,c⟩:=Gr h;obtain⟨q1,q2⟩:=f c;refine⟨by simp[q1],λi o' d a b=>?_⟩
  cases i with
  | zero=>simp at a b;subst a;subst b;exact h1
  | succ i=>exact q2 i o' d (by simpa using a) (by simpa using b)
theorem Bc{N:Nat}{A:Array cp}{ops:List cp}{e:il}{l:List il}(h:pM P G N A ops=aE (e::l)) :
  ∃o r,ops=o::r/\wW P G N A o=aE e/\pM P G N A r=aE l:=by
 cases ops with
 | nil=>cases h
 | cons o r=>
  obtain⟨d,c,h1,b,a⟩:=Gr h;cases h1;exact⟨o,r,rfl,b,a⟩
theorem abA{N:Nat}{c:Ctx}{w:en}{s:St}{a:eB}{b:Option Nat}{n:Nat}{o:cp}{g:iT}{f:dx}{args:List D}{next:eB->en->Prop}{Q:Exit->eB->en->Prop}(hs:lD G N c w s a)(i:nO P G o=aE g)
  (x:tD N o.dst=dr) (m:kC s.env.get g=aE (f,args)) (p:vq P f=dr) {R:D->gd->Prop}
  (q:∀vs:List ez,jK c w vs args->Calls P f vs.toArray w λe w'=>∃v c' d H',e = .returned v/\R d H'/\gI G c' H' w'/\gj c' w' v d/\Step s.H.l c s.H w c' H' w')
  (k:∀d H' c' w' l,R d H'->lD G N c' w' { s with env:=put s.env o.dst d,H:=H' } l->Step s.H.l c s.H w c' H' w'->next l w'):o.wpIn (FW b) n P a w next Q:=by
 obtain⟨vs,t,r⟩:=IY hs.gp hs.env i m p;refine⟨λ_ _=>trivial,?_⟩;rw[Oper.semAt_plain (FW b) a.eval o (Aw i),t];refine⟨λh=>by simp[Fence.wide]at h,Du.2 ((q vs r).mono ?_)⟩;rintro e w' ⟨v,c',d,H',rfl,y,gp,u,j⟩;exact k d H' c' w' _ y (hs.next gp j x u) j
theorem abP{s s1:St}{dst:Option Nat}{args:List D}{r:D}{Hn:gd}(h:after s dst args r Hn=aE s1) :
  (if gK args then mL r&&Hn.all nN else oR r&&Hn.all pv)=dr/\s1 = { s with env:=put s.env dst (kE s.H.l r),H:=s.H++Hn }:=by
 unfold after at h;generalize (if gK args=dr then mL r&&Hn.all nN else oR r&&Hn.all pv)=b at h;cases b
 .cases h
 .grind
theorem aan{P:eh}{G:GT}{o:cp}{b:iT}(a:nO P G o=aE b):Pg b=false:=by
 unfold nO at a;split at a
 all_goals try simp only[aC,ag,aF]at a
 all_goals (repeat' first|(obtain⟨_,_,a⟩:=a)|split at a|simp only[ag]at a)
 all_goals first|rfl|(cases a;done)|(cases a;rfl)|(split<;>rfl)
theorem amH{P:eh}{G:GT}{o:cp}{x:X}(a:nO P G o=aE (.nextM x)):False:=by have:=aan a;cases this
theorem amI{P:eh}{G:GT}{o:cp}{a:iT}(b:nO P G o=aE a){f:gZ}{H:gd}{n:Nat}{r:D×Dl}(h:mH f H n a=aE r):False:=by have:=aan b;cases a<;>first|(cases h;done)|(cases this;done)
theorem am6{fn:jq}(s:St)(ms:List Nat):AL.results fn { s with marks:=ms }=AL.results fn s:=by
 have h1:∀x,Ct { s with marks:=ms } x=Ct s x:=λx=>by cases x<;>rfl
 have b:∀l,um { s with marks:=ms } l=um s l:=by
  intro l
  induction l with
  | nil=>rfl
  | cons x r a=>simp only[um,h1,a]
 simp only[AL.results,b]
theorem afq(hM:P.follows .mixedOrders=dr)(hT:PH P G T){j:AY}{R:ph->Prop}(h:Ev T j R):Good P G j R:=by
 induction h with
 | @mono j R R' h hi O=>
  cases j with
  | ops l s=>exactλN A ops D J n Q c w a L hs B=>O N A ops D J n Q c w a L hs λo c' w' X Z=>B o c' w' X (hi _ Z)
  | code ir s=>exactλN code D J n Q c w a L hs B=>O N code D J n Q c w a L hs λo c' w' X Z=>B o c' w' X (hi _ Z)
  | loop n0 live ir s=>exactλhn N code D J n Q c w a L hs B=>O hn N code D J n Q c w a L hs λo c' w' X Z=>B o c' w' X (hi _ Z)
  | call f args H=>exactλc w vs h1 W=>(O c w vs h1 W).mono λ_ _ ⟨v,c',d,H',he,Z,r⟩=>⟨v,c',d,H',he,hi _ Z,r⟩
  | trace l s=>
   obtain⟨rs,I,h1,W⟩:=O;exact⟨rs,I,hi _ h1,W⟩
 | @sort f g fn sz v gen t H R α fc l cf hs hg hl gQ h0 w9 EJ tr nt D hv k tW=>
  obtain⟨func,code,h1,W,t1,t2,t3,_⟩:=(hT.fn g fn hg).ex;exact an8 (hT.sort f sz hs) t3 fc l hl gQ h0 w9 cf EJ tr nt (λx hx y hy c w vs h1 W=>(tW x hx y hy c w vs h1 W).mono λ_ _ ⟨v,c',d,H',he,Z,r⟩=>⟨v,c',d,H',he,by obtain⟨_,e⟩:=Z;cases e;rfl,r⟩) hv k
 | @Fe f sz x H R hs k=>exact an7 (hT.sort f sz hs) (f:=f) (g:=0) k
 | @tm f v gen t H R l hs h0 w9 hv k=>exact aob (hT.tm f hs) l h0 w9 hv k
 | @s6 f v gen t zs H R l i hs hi hv k=>exact adk (hT.s6 f hs) l i hi hv k
 | @nil s R h=>
  intro N A ops D J n Q c w a L hs B;rw[ac4 D];exact B _ c w a h rfl (b4 _) hs (Step.refl _ _ _ _)
 | @op e r s d δ R hg h t O=>
  have E:s.H.l<=(δ.app s.H (Al.last s.H)).l:=PL δ s.H;intro N A ops D J n Q c w a L hs B;obtain⟨o,r',rfl,ho,ni⟩:=Bc D;obtain⟨s1,s2,s3,s4⟩:=zB ho;have hw:=uw hs.env s4 hg;simp only[ek,hw,if_true];have s1:=Vr s1 h;refine aoF hs s1 s3 (np.last s.H) h λc' w' X V Y=>?_;rw[<-s2]at V;exact O N A r' ni J n Q c' w' X L V (B.mono Y E)
 | @CL e r s d δ R hg h t O=>
  have E:s.H.l<=(δ.app s.H (Al.last s.H)).l:=PL δ s.H;intro N A ops D J n Q c w a L hs B;obtain⟨o,r',rfl,ho,ni⟩:=Bc D;obtain⟨s1,s2,s3,s4⟩:=zB ho;have hw:=uw hs.env s4 hg;simp only[ek,hw,if_true];have s1:=s1.resolve_left λW=>amI W h;refine aoH hs s1 s3 (np.last s.H) h λc' w' X V Y=>?_;rw[<-s2]at V;exact O N A r' ni J n Q c' w' X L V (B.mono Y E)
 | @off e r s R hg t O=>
  intro N A ops D J n Q c w a L hs B;obtain⟨o,r',rfl,ho,ni⟩:=Bc D;obtain⟨s1,s2,s3,s4⟩:=zB ho;have hw:=uw hs.env s4 hg;simp only[ek,hw,bC,if_false];refine⟨λ_ _=>trivial,?_⟩;have V:=hs.next hs.gp (Step.refl _ _ _ _) s3 (v:=undef) (d:=.val undef) (.val _)
  rw[<-s2]at V;rw[<-s2];exact O N A r' ni J n Q c w _ L (by rw[s2]at V ⊢;exact V) B
 | @mj l s R S hm t O=>
  have a3:(mj S s).H.l=s.H.l:=Qz;intro N A ops D J n Q c w a L hs B;obtain⟨c',V,Y,_⟩:=WV hs S;refine O N A ops D J n Q c' w a L V ?_;rw[a3];exact B.mono Y (b4 _)
 | @GN code s R S hm t O=>
  have a3:(mj S s).H.l=s.H.l:=Qz;intro N code D J n Q c w a L hs B;obtain⟨c',V,Y,_⟩:=WV hs S;refine O N code D J n Q c' w a L V ?_;rw[a3];exact B.mono Y (b4 _)
 | @Qx l s R live t O=>
  intro N A ops D J n Q c w a L hs B;exact O N A ops D J n Q c w a L ⟨hs.gp,DE hs.env live,hs.size,hs.marks⟩ B
 | @DM code s R live t O=>
  intro N code D J n Q c w a L hs B;exact O N code D J n Q c w a L ⟨hs.gp,DE hs.env live,hs.size,hs.marks⟩ B
 | @Gg e r s f args fn R1 R hg D hf hp h ha t tW O=>
  intro N A ops pQ J n Q c w a L hs B;obtain⟨o,r',rfl,ho,ni⟩:=Bc pQ;obtain⟨s1,s2,s3,s4⟩:=zB ho;have hw:=uw hs.env s4 hg;simp only[ek,hw,if_true];obtain⟨func,code,h1,W,t1,t2,t3,_⟩:=(hT.fn f fn hf).ex
  have jC:∀d Hn,Fo R1 d Hn->(if gK args then mL d&&Hn.all nN else oR d&&Hn.all pv)=dr/\after s e.dst args d Hn=aE { s with env:=put s.env e.dst (kE s.H.l d),H:=s.H++Hn }:=λd Hn Z=>by obtain⟨I,V⟩:=de.1 (ha d Hn Z);obtain⟨k1,rfl⟩:=abP V;exact⟨k1,V⟩
  have s1:=DA s1 D;refine abA hs s1 s3 D t3 (R:=λd H'=>∃d0 Hn,Fo R1 d0 Hn/\d=kE s.H.l d0/\H'=s.H++Hn) (λvs iJ=>(amP hs.gp iJ tW λd Hn Z=>(jC d Hn Z).1).mono ?_) ?_
  .grind
  .rintro d H' c' w' X ⟨d0,Hn,Z,rfl,rfl⟩ V Y;rw[<-s2]at V;exact O d0 Hn _ Z (jC d0 Hn Z).2 N A r' ni J n Q c' w' X L V (B.mono Y fZ)
 | @Gf e r s f args fn R1 R hg D hf hp h t tW O=>
  intro N A ops pQ J n Q c w a L hs B;obtain⟨o,r',rfl,ho,ni⟩:=Bc pQ;obtain⟨s1,s2,s3,s4⟩:=zB ho;have hw:=uw hs.env s4 hg;simp only[ek,hw,if_true];obtain⟨func,code,h1,W,t1,t2,t3,_⟩:=(hT.fn f fn hf).ex;have s1:=DA s1 D;refine abA hs s1 s3 D t3 (R:=λd H'=>Fo R1 d H'/\s.H.l<=H'.l) (λvs iJ=>(tW c w vs hs.gp iJ).mono ?_) ?_
  .grind
  .rintro d H' c' w' X ⟨Z,E⟩ V Y;rw[<-s2]at V;exact O d H' Z N A r' ni J n Q c' w' X L V (B.mono Y E)
 | @Mu e r s v args rf env0 Rd Ra Rb R hg D hv Z hl ha hn hb hm t qq xt tX=>
  intro N A ops pQ J n Q c w a L hs B;obtain⟨o,r',rfl,ho,ni⟩:=Bc pQ;obtain⟨s1,s2,s3,s4⟩:=zB ho;have hw:=uw hs.env s4 hg;simp only[ek,hw,if_true];obtain⟨M,ps,ac,bc,vB,NP,gM,Ri,r5⟩:=(hT.round rf Rd Z).ex;rw[<-NP]at hl qq gM
  have s1:=s1.resolve_right λW=>by
   have:=P3 W;unfold yieldOf at D;split at D
   .rename_i r4;rw[r4]at this;cases this
   .cases D
  refine aoI hs s1 s3 D hv vB (by simpa using hl) (λp hp=>by simpa using cc.1 gM p hp) (Ra:=outs Ra) (Rb:=outs Rb) ?_ hn ?_ hm ?_
  .exact λJ n Q c w a V kZ=>qq M ac Ri J n Q c w a (λh=>by cases h) V kZ
  .intro s1 lF zQ pF nW J n Q c w a V kZ;have:=xt s1 lF zQ nW M bc r5 J n Q c w a (λh=>by simp[pF]at h) V;simp only[aw,pF]at this;exact this kZ
  .intro q lQ c' w' X zR oM E V Y;rw[<-s2]at V;exact tX q lQ zR oM N A r' ni J n Q c' w' X L V (B.mono Y (by simpa using E))
 | @next e r s x v m since seen kk es R hg iz hx hv hm oL h0 h1 r3 rn=>
  intro N A ops pQ J n Q c w a L hs B;obtain⟨o,r',rfl,ho,ni⟩:=Bc pQ;obtain⟨s1,s2,s3,s4⟩:=zB ho;have hw:=uw hs.env s4 hg;simp only[ek,hw,if_true];rw[iz]at s1;have s1:=s1.resolve_left λW=>amH W;refine aoE hs s1 s3 hx hv hm oL ?_ ?_
  .intro jL c' w' X V Y;rw[<-s2]at V;exact r3 jL N A r' ni J n Q c' w' X L V (B.mono Y (b4 _))
  .intro i k d hi Eh c' w' X V Y;rw[<-s2]at V;exact rn i k d hi Eh N A r' ni J n Q c' w' X L V (B.mono Y fZ)
 | @skip s R h=>
  intro N code D J n Q c w a L gp B;cases D;exact wpIn_skip (B _ c w a h rfl (b4 _) gp (Step.refl _ _ _ _))
 | @Gq l s R h O=>
  intro N code D J n Q c w a L gp B
  cases D with
  | ops h=>exact wpIn_region_list (O N _ _ h J n Q c w a L gp B)
 | @seq a b s R1 R h k hs rn sL=>
  intro N code D J n Q c w a L gp B
  cases D with
  | seq h1 W=>
   refine wpIn_seq (rn N _ h1 J n _ c w a L gp λo c' w' X Z pF E sG Y=>?_)
   cases o with
   | norm I=>
    have NU:I.iG=s.iG:=pF;refine sL I Z N _ W J n Q c' w' X (λh=>L (by rw[<-NU];exact h)) sG ?_;rw[NU];exact B.mono Y E
   | exit id I=>exact B _ c' w' X (hs _ Z rfl) pF E sG Y
   | ret I=>exact B _ c' w' X (hs _ Z rfl) pF E sG Y
 | @cond c a b s x R D h O=>
  intro N code pQ J n Q c w a L gp B
  cases pQ with
  | @cond cx ca cb _ _ _ hx h1 W=>
   have hr:=iU gp.gp gp.env hx;rw[D]at hr
   have he:a.eval cx = .bool x:=by generalize a.eval cx=u at hr;cases hr;rfl
   refine wpIn_cond he ?_;cases x
   .exact O N _ W J n Q c w a L gp B
   .exact O N _ h1 J n Q c w a L gp B
 | @block id live a s R1 R h k O=>
  have a3:∀I:St,s.H.l<=I.H.l->s.H.l<=(cut s.H.l live I).H.l:=by
   intro I h1;unfold cut;split
   .exact h1
   .dsimp only;rw[O'];simp[jn]
  have Yw:∀I:St,(cut s.H.l live I).iG=I.iG:=by intro I;unfold cut;split<;>rfl
  intro N code D J n Q c w a L gp B
  cases D with
  | block h1=>
   refine wpIn_block (O N _ h1 J n _ c w a L gp λo c' w' X Z pF E sG Y=>?_);have pD:=k o Z
   cases o with
   | norm I=>
    obtain⟨c2,nh,te,_⟩:=Bd sG E live;exact B (.norm (cut s.H.l live I)) c2 w' X pD ((Yw I).trans pF) (a3 I E) nh (Y.trans te (b4 _))
   | exit Am I=>
    by_cases Ry:Am=id
    .subst Ry;obtain⟨c2,nh,te,_⟩:=Bd sG E live;simp only[l4,if_true]at pD;have:=B (.norm (cut s.H.l live I)) c2 w' X pD ((Yw I).trans pF) (a3 I E) nh (Y.trans te (b4 _));simp only[Out.ex,Exit.inBlock,if_true]at this ⊢;exact this
    .simp only[l4,if_neg Ry]at pD;have:=B _ c' w' X pD pF E sG Y;simp only[Out.ex,Exit.inBlock,if_neg Ry]at this ⊢;exact this
   | ret I=>exact B _ c' w' X pD pF E sG Y
 | @Jg s R Z=>
  exact⟨[],s,Z,b4 _,rfl,rfl,λK k0 hK=>⟨[],rfl,rfl,rfl,.nil⟩⟩
 | @Ji e r s d δ R1 R hg h t k O=>
  obtain⟨rs,I,rR,i1,i2,i4,i3⟩:=O;refine⟨_,I,k _ _ rR,di (PL δ s.H) i1,i2,i4,λK k0 hK=>?_⟩;obtain⟨z,e1,e2,e3,vC⟩:=i3 K (k0+1) hK;obtain⟨a1,a2⟩:=PM (abV h) K (di i1 hK);refine⟨⟨k0,e,s.H.l,⟨gT s.env.get s.H e.op,kd s.H.l δ⟩⟩::z,by simp[e1],by simp[e2],by simp[e3,cD],?_⟩
  have hE:Ef (CC P G) s.env.get (s.H++room (K-s.H.l)) e s.H.l ⟨gT s.env.get s.H e.op,kd s.H.l δ⟩ d δ:=by have:=Ef.op (C:=CC P G) (f:=s.env.get) (H:=s.H++room (K-s.H.l)) (e:=e) (n:=s.H.l) hg (by rw[abU];exact h) a2;rwa [GM]at this
  refine .cons hE ?_;rw[a1];have hp:(put s.env e.dst d).get=mM s.env.get e.dst d:=EY _ _ _;rw[<-hp];exact vC
 | @Jh e r s R1 R hg t k O=>
  obtain⟨rs,I,rR,i1,i2,i4,i3⟩:=O;refine⟨_,I,k _ _ rR,i1,i2,i4,λK k0 hK=>?_⟩;obtain⟨z,e1,e2,e3,vC⟩:=i3 K (k0+1) hK;refine⟨⟨k0,e,0,⟨[],[]⟩⟩::z,by simp[e1],by simp[e2],by simp[e3,cD],.cons (.off hg) ?_⟩;have hp:(put s.env e.dst (.val undef)).get=mM s.env.get e.dst (.val undef):=EY _ _ _;rw[<-hp];exact vC
 | @Jc e r s f args fn d R0 R1 R hg D hf hp h h0 hr t k tW O=>
  obtain⟨rs,I,rR,i1,i2,i4,i3⟩:=O;refine⟨_,I,k _ _ rR,i1,i2,i4,λK k0 hK=>?_⟩;obtain⟨z,e1,e2,e3,vC⟩:=i3 K (k0+1) hK;refine⟨⟨k0,e,0,⟨gT s.env.get s.H e.op,[]⟩⟩::z,by simp[e1],by simp[e2],by simp[e3,cD],?_⟩;obtain⟨func,code,h1,W,t1,t2,t3,_⟩:=(hT.fn f fn hf).ex
  have hE:Ef (CC P G) s.env.get (s.H++room (K-s.H.l)) e 0 ⟨gT s.env.get s.H e.op,[]⟩ d .no:=by have e0:args.map (gw (λ_=>bb) (s.H++room (K-s.H.l)) 40)=args.map (gw (λ_=>bb) s.H 40):=au λd _=>(E4 40 d).2;have:=Ef.call (C:=CC P G) (f:=s.env.get) (H:=s.H++room (K-s.H.l)) (e:=e) (n:=0) hg D (by rw[e0];exact⟨t3,tW.one h0⟩) hr;rwa [GM]at this
  refine .cons hE ?_;have hp:(put s.env e.dst d).get=mM s.env.get e.dst d:=EY _ _ _;rw[<-hp];exact vC
 | @Je e r s f wU args fn d ob R0 R1 R hg iz ha hf hp h h0 hr t k tW O=>
  obtain⟨rs,I,rR,i1,i2,i4,i3⟩:=O;have E:s.H.l<=(s.H ++ [ob]).l:=fZ;refine⟨_,I,k _ _ rR,di E i1,i2,i4,λK k0 hK=>?_⟩;obtain⟨z,e1,e2,e3,vC⟩:=i3 K (k0+1) hK;have RY:Safe s.H (.new ob):=trivial;obtain⟨a1,a2⟩:=PM (δ:=.new ob) RY K (by have:(s.H ++ [ob]).l<=K:=di i1 hK;simpa[Dl.app,Al.last]using this);refine⟨⟨k0,e,s.H.l,⟨gT s.env.get s.H e.op,[(s.H.l,bb)]⟩⟩::z,by simp[e1],by simp[e2],by simp[e3,cD],?_⟩;obtain⟨func,code,h1,W,t1,t2,t3,_⟩:=(hT.fn f fn hf).ex
  have hE:Ef (CC P G) s.env.get (s.H++room (K-s.H.l)) e s.H.l ⟨gT s.env.get s.H e.op,[(s.H.l,bb)]⟩ (kE s.H.l d) (.new ob):=by have e0:args.map (gw (λ_=>bb) (s.H++room (K-s.H.l)) 40)=args.map (gw (λ_=>bb) s.H 40):=au λd _=>(E4 40 d).2;have:=Ef.callN (C:=CC P G) (f:=s.env.get) (H:=s.H++room (K-s.H.l)) (e:=e) (n:=s.H.l) hg iz ha (by rw[e0];exact⟨t3,tW.one h0⟩) hr a2;rwa [GM]at this
  refine .cons hE ?_;have PI:lO s.H.l (.new ob) (s.H++room (K-s.H.l))=(s.H ++ [ob])++room (K-(s.H ++ [ob]).l):=a1;show Tx (CC P G) (mM s.env.get e.dst (kE s.H.l d)) (lO s.H.l (.new ob) (s.H++room (K-s.H.l))) z _ _;rw[PI];have hp:(put s.env e.dst (kE s.H.l d)).get=mM s.env.get e.dst (kE s.H.l d):=EY _ _ _;rw[<-hp];exact vC
 | @Jf e r s f wU args fn d v R0 R1 R hg iz ha hf hp hS hv ig gQ h h0 hr t k tW O=>
  obtain⟨rs,I,rR,i1,i2,i4,i3⟩:=O;have E:s.H.l<=(s.H.set v .dead).l:=fZ;refine⟨_,I,k _ _ rR,di E i1,i2,i4,λK k0 hK=>?_⟩;obtain⟨z,e1,e2,e3,vC⟩:=i3 K (k0+1) hK
  have jg:v<s.H.l:=by
   unfold rowsOf at ig;split at ig
   .grind
   .cases ig
  have RY:Safe s.H (.obj v .dead):=jg;obtain⟨a1,a2⟩:=PM (δ:=.obj v .dead) RY K (by have:(s.H.set v .dead).l<=K:=di i1 hK;simpa[Dl.app]using this);refine⟨⟨k0,e,0,⟨gT s.env.get s.H e.op,[(v,bb)]⟩⟩::z,by simp[e1],by simp[e2],by simp[e3,cD],?_⟩;obtain⟨func,code,h1,W,t1,t2,t3,_⟩:=(hT.fn f fn hf).ex
  have hE:Ef (CC P G) s.env.get (s.H++room (K-s.H.l)) e 0 ⟨gT s.env.get s.H e.op,[(v,bb)]⟩ d (.obj v .dead):=by have e0:args.map (gw (λ_=>bb) (s.H++room (K-s.H.l)) 40)=args.map (gw (λ_=>bb) s.H 40):=au λd _=>(E4 40 d).2;have e4:args.map (iB (s.H++room (K-s.H.l)) 40)=args.map (iB s.H 40):=au λd _=>(E4 40 d).1;have:=Ef.A' (C:=CC P G) (f:=s.env.get) (H:=s.H++room (K-s.H.l)) (e:=e) (n:=0) (v:=v) hg iz ha (by rw[e4];exact hS) (by rw[e4];exact hv) (by rw[Tw];exact ig) (by rw[e0];exact⟨t3,tW.one h0⟩) (by rw[e0];exact gQ) hr;rwa [GM]at this
  refine .cons hE ?_;have PI:lO 0 (.obj v .dead) (s.H++room (K-s.H.l))=(s.H.set v .dead)++room (K-(s.H.set v .dead).l):=a1;show Tx (CC P G) (mM s.env.get e.dst d) (lO 0 (.obj v .dead) (s.H++room (K-s.H.l))) z _ _;rw[PI];have hp:(put s.env e.dst d).get=mM s.env.get e.dst d:=EY _ _ _;rw[<-hp];exact vC
 | @Pv e r s f wU args fn d v ob R1 R R0 hg iz ha hf hv ic h h0 tO t k tW O=>
  obtain⟨rs,I,rR,i1,i2,i4,i3⟩:=O;refine⟨_,I,k _ _ rR,i1,i2,i4,λK k0 hK=>?_⟩;obtain⟨z,e1,e2,e3,vC⟩:=i3 K (k0+1) hK;refine⟨⟨k0,e,0,⟨gT s.env.get s.H e.op,[]⟩⟩::z,by simp[e1],by simp[e2],by simp[e3,cD],?_⟩;obtain⟨func,code,h1,W,t1,t2,t3,_⟩:=(hT.fn f fn hf).ex
  have hE:Ef (CC P G) s.env.get (s.H++room (K-s.H.l)) e 0 ⟨gT s.env.get s.H e.op,[]⟩ d .no:=by have e4:args.map (iB (s.H++room (K-s.H.l)) 40)=args.map (iB s.H 40):=au λd _=>(E4 40 d).1;have:=Ef.A9 (C:=CC P G) (f:=s.env.get) (H:=s.H++room (K-s.H.l)) (e:=e) (n:=0) (v:=v) (ob:=ob) hg iz ha (by rw[e4];exact hv) (by rw[ah (ae.1 ic).1];exact ic) ⟨t3,tO,λH hH=>by obtain⟨F,hF⟩:=h0 H;exact⟨F,(tW H hH).one hF⟩⟩;rwa [GM]at this
  refine .cons hE ?_;have hp:(put s.env e.dst d).get=mM s.env.get e.dst d:=EY _ _ _;rw[<-hp];exact vC
 | @mg jQ l s R1 R t hp O=>
  obtain⟨rs,I,rR,i1,i2,i4,i3⟩:=O;obtain⟨hp,BD⟩:=hp rs I rR;intro N code D J n Q c w a L gp B
  cases D with
  | @mg _ _ id A ord yf he ho rl=>
   obtain⟨z,e1,e2,e3,BE⟩:=i3 I.H.l 0 (b4 _);have a3:z.l=l.l:=by rw[<-e1];simp
   have gQ:∀(ops:List cp) (l:List il),pM P G N A ops=aE l->ops.l=l.l/\∀(i:Nat) (o:cp) (e:il),ops[i]? = aE o->l[i]? = aE e->wW P G N A o=aE e:=by
    intro ops
    induction ops with
    | nil=>intro l h;cases h;exact⟨rfl,λi o e h=>by simp at h⟩
    | cons o r Sn=>
     intro l h;obtain⟨e,l',rfl,h1,W⟩:=Gr h;obtain⟨q1,q2⟩:=Sn l' W;refine⟨by simp[q1],λi o' e' ho he=>?_⟩
     cases i with
     | zero=>simp at ho he;subst ho;subst he;exact h1
     | succ i=>exact q2 i o' e' (by simpa using ho) (by simpa using he)
   obtain⟨q1,q2⟩:=gQ _ _ yf;have hA:A.size=l.l:=by rw[<-q1];simp
   have jF:∀(i:Nat) (it:mN),z[i]? = aE it->it.k=i/\l[i]? = aE it.e/\rs[i]? = aE it.rc:=by
    intro i it hi;have gM:=(ae.1 hi).1;refine⟨?_,by rw[<-e1];simp[hi],by rw[<-e2];simp[hi]⟩;have:(z.map (·.k))[i]? = aE it.k:=by simp[hi]
    rw[e3,eK U]at this;simpa using this.symm
   refine eL hM ?_;have rZ:gI G c s.H { w with drawn:=w.drawn+1 }:=gp.gp.pP (ko.drew w);have HR:Step s.H.l c s.H w c s.H { w with drawn:=w.drawn+1 }:=CS _ (ko.drew w)
   have R4:SX G N c { w with drawn:=w.drawn+1 } s.env.get (s.H++room (I.H.l-s.H.l)) s.marks a:=
    ⟨aaN rZ _,lj.carry (λ_ _ h=>h.p8 gp.gp.toHeapOK HR) gp.env,gp.size,gp.marks⟩
   refine UL (C:=CC P G) (λx g args d Hn h=>h) he ho A.size z _ c _ _ _ a U ?_ R4 BE ?_ ?_ λc' w' X V Y=>?_
   .refine⟨fZ,λj hj=>?_,?_,λit kl=>?_,λi hi hl=>?_⟩
    .refine⟨λ_=>⟨z[j]' U,bP _,(jF j _ (bs _)).1⟩,λ_=>by simp[hj]⟩
    .rw[bG];intro i j hi hj BU;rw[(jF i _ (bs hi)).1,(jF j _ (bs hj)).1];exact BU
    .obtain⟨i,hi⟩:=aD.1 kl;have gM:=(ae.1 hi).1;rw[(jF i it hi).1];omega
    .simp_all
   .intro it kl;obtain⟨i,hi⟩:=aD.1 kl;have gM:=(ae.1 hi).1;obtain⟨k1,k2,k3⟩:=jF i it hi;refine⟨A[i]' U,by rw[k1];simp,q2 i _ _ fZ k2⟩
   .intro p yw q hq Aa;obtain⟨i,hi⟩:=aD.1 yw;obtain⟨j,hj⟩:=aD.1 hq;obtain⟨p1,p2,p3⟩:=jF i p hi;obtain⟨Tf,Th,q3⟩:=jF j q hj;rw[p1,Tf]at Aa ⊢;have gM:=(ae.1 hj).1;have:=cc.1 (cc.1 rl j (bp.2 U)) i (bp.2 Aa);simp only[p2,Th,bX,ai,dz]at this;rcases this with h|⟨h1,W⟩
    .exact .inl h
    .refine .inr ⟨h1,?_⟩;rcases W with W|W
     .have:=cc.1 hp (i,j) W;simp only[p3,q3]at this;exact this
     .obtain⟨_,_,_,_,E1⟩:=BE.each p yw;obtain⟨_,_,_,_,E2⟩:=BE.each q hq;exact abe E1 E2 W
   .simp only[bW,room,eI,aB]at V Y;refine B _ c' w' X BD i4 i1 ⟨V.gp,V.env,V.size,by show sq c' I.marks _;rw[i2];exact V.marks⟩ ?_;have h1:=HR.trans (aaO (c:=c) (w:={ w with drawn:=w.drawn+1 }) (H:=s.H) (I.H.l-s.H.l) s.H.l) (b4 _);exact h1.trans Y fZ
 | @mS jQ l es s R1 R t hp k O yD=>
  obtain⟨rs,I,rR,i1,i2,i4,i3⟩:=O;have hp:=hp rs I rR;have yD:=yD rs I rR;intro N code D J n Q c w a L gp B
  cases D with
  | @mS _ _ _ id A ord yf he ho rl z6=>
   obtain⟨z,e1,e2,e3,BE⟩:=i3 I.H.l 0 (b4 _);have a3:z.l=l.l:=by rw[<-e1];simp
   obtain⟨o1,o2,QT,c1,c2⟩:=Vw yf;obtain⟨q1,q2⟩:=Vx c1;obtain⟨q3,_⟩:=Vx c2;have hA:A.size=l.l+es.l:=by rw[<-dj,QT,aq,q1,q3]
   have zN:∀i,i<l.l->A[i]? = o1[i]? := λi hi=>by rw[<-bE,QT,ah U]
   have r7:∀i,A[l.l+i]? = o2[i]? := λi=>by rw[<-bE,QT,ak U];congr 1;omega
   have jF:∀(i:Nat) (it:mN),z[i]? = aE it->it.k=i/\l[i]? = aE it.e/\rs[i]? = aE it.rc/\i<l.l:=by
    intro i it hi;have gM:=(ae.1 hi).1;refine⟨?_,by rw[<-e1];simp[hi],by rw[<-e2];simp[hi],U⟩;have:(z.map (·.k))[i]? = aE it.k:=by simp[hi]
    rw[e3,eK U]at this;simpa using this.symm
   refine eL hM ?_;have rZ:gI G c s.H { w with drawn:=w.drawn+1 }:=gp.gp.pP (ko.drew w);have HR:Step s.H.l c s.H w c s.H { w with drawn:=w.drawn+1 }:=CS _ (ko.drew w)
   have R4:SX G N c { w with drawn:=w.drawn+1 } s.env.get (s.H++room (I.H.l-s.H.l)) s.marks a:=
    ⟨aaN rZ _,lj.carry (λ_ _ h=>h.p8 gp.gp.toHeapOK HR) gp.env,gp.size,gp.marks⟩
   have NL:∀q∈(es.zipIdx l.l).map (λp=>(⟨p.2,p.1,0,⟨[],[]⟩⟩:mN)),l.l<=q.k/\q.k<l.l+es.l:=λq hq=>jS
   have nS:∀k,l.l<=k->k<l.l+es.l->∃p∈(es.zipIdx l.l).map (λp=>(⟨p.2,p.1,0,⟨[],[]⟩⟩:mN)),p.k=k:=λk h1 W=>
    ⟨⟨k,es[k-l.l]' U,0,⟨[],[]⟩⟩,az.2 ⟨(es[k-l.l]' U,k),by rw[dF];exact⟨h1,fZ⟩,rfl⟩,rfl⟩
   have Hx:((es.zipIdx l.l).map (λp=>(⟨p.2,p.1,0,⟨[],[]⟩⟩:mN))).l=es.l:=fZ;rw[show A.size=z.l+((es.zipIdx l.l).map (λp=>(⟨p.2,p.1,0,⟨[],[]⟩⟩:mN))).l by rw[Hx];omega];refine UM (C:=CC P G) (λx g args d Hn h=>h) he ho (lasts:=(es.zipIdx l.l).map λp=>⟨p.2,p.1,0,⟨[],[]⟩⟩) (ops:=o2) (λq hq k B=>(z6 q.k (NL q hq).1 (by simp;exact(NL q hq).2) k B).imp (λh=>h) λh=>⟨nS k h.1 (by have:=(NL q hq).2;omega),h.2⟩) ?_ z.l z _ c _ _ _ a rfl ?_ R4 BE ?_ ?_ λc' w' X V Y=>?_
   .refine bU λi=>?_;simp only[b7,ax,List.getElem?_zipIdx]
    cases h:es[i]? with
    | none=>
     have:es.l<=i:=by simpa using h
     simp[cy (l:=o2) (i:=i) U]
    | some e=>
     have:=(ae.1 h).1;simp[r7,bs (l:=o2) (i:=i) U]
   .refine⟨gL,λj hj=>?_,?_,λit kl=>?_,λi hi hl=>?_⟩
    .refine⟨λ_=>?_,λ_=>by rw[Hx];simp[(U:j<z.l+es.l)]⟩
     by_cases nD:j<l.l
     .exact⟨z[j]' U,bz _ (bP _),(jF j _ (bs _)).1⟩
     .refine⟨⟨j,es[j-l.l]' U,0,⟨[],[]⟩⟩,bL _ (az.2 ⟨(es[j-l.l]' U,j),?_,rfl⟩),rfl⟩;rw[dF];exact⟨U,fZ⟩
    .refine bN.2 ⟨?_,?_,λp yw q hq=>?_⟩
     .rw[bG];intro i j hi hj BU;rw[(jF i _ (bs hi)).1,(jF j _ (bs hj)).1];exact BU
     .rw[bG];intro i j hi hj BU;simp;omega
     .obtain⟨i,hi⟩:=aD.1 yw;have h1:=jF i p hi;have W:=NL q hq;omega
    .rcases aj.1 kl with kl|kl
     .obtain⟨i,hi⟩:=aD.1 kl;have:=jF i it hi;omega
     .grind
    .simp_all
   .intro it kl;obtain⟨i,hi⟩:=aD.1 kl;obtain⟨k1,k2,k3,k4⟩:=jF i it hi;have h1:o1[i]? = aE (o1[i]' U):=bs _;exact⟨o1[i]' U,by rw[k1,zN i k4,h1],q2 i _ _ h1 k2⟩
   .intro p yw q hq Aa;obtain⟨i,hi⟩:=aD.1 yw;obtain⟨j,hj⟩:=aD.1 hq;obtain⟨p1,p2,p3,p4⟩:=jF i p hi;obtain⟨Tf,Th,q3,q4⟩:=jF j q hj;rw[p1,Tf]at Aa ⊢;have:=cc.1 (cc.1 rl j (bp.2 gL)) i (bp.2 Aa);simp only[ah p4,ah q4,p2,Th,bX,ai,dz]at this;rcases this with h|⟨h1,W⟩
    .exact .inl h
    .refine .inr ⟨h1,?_⟩;rcases W with W|W
     .have:=cc.1 hp (i,j) W;simp only[p3,q3]at this;exact this
     .obtain⟨_,_,_,_,E1⟩:=BE.each p yw;obtain⟨_,_,_,_,E2⟩:=BE.each q hq;exact abe E1 E2 W
   .simp only[bW,room,eI,aB]at V Y;have h1:=HR.trans (aaO (c:=c) (w:={ w with drawn:=w.drawn+1 }) (H:=s.H) (I.H.l-s.H.l) s.H.l) (b4 _);have W:=h1.trans Y fZ;exact yD N A o2 c2 J n Q c' w' X (by rw[i4];exact L) ⟨V.gp,V.env,V.size,by show sq c' I.marks _;rw[i2];exact V.marks⟩ (by rw[i4];exact B.mono W i1)
 | @loop live a s R h O=>
  intro N code D J n Q c w a L gp B
  cases D with
  | loop h1=>exact aoD (O (b4 _) N _ h1 J n Q c w a L ⟨gp.gp,DE gp.env live,gp.size,gp.marks⟩ B)
 | @Aq n0 live a s R1 R h k hs rn sL=>
  intro hn N code D J n Q c w a L gp B;refine ahq (rn N _ D J n _ c w a L gp λo c' w' X Z pF E sG Y=>?_)
  cases o with
  | norm I=>
   have X8:n0<=I.H.l:=di hn E
   have s9:n0<=(cut n0 live I).H.l:=by
    unfold cut;split
    .exact X8
    .dsimp only;rw[O'];simp[jn]
   have uU:(cut n0 live I).iG=s.iG:=by have NU:I.iG=s.iG:=pF;unfold cut;split<;>exact NU
   obtain⟨c2,nh,te,_⟩:=Bd sG X8 live;refine sL I Z s9 N _ D J n Q c2 w' X (λh=>L (by rw[<-uU];exact h)) nh ?_;rw[uU];exact B.mono ((Y.weaken hn).trans te (b4 _)) (b4 _)
  | exit id I=>exact B _ c' w' X (hs _ Z rfl) pF (di hn E) sG (Y.weaken hn)
  | ret I=>exact B _ c' w' X (hs _ Z rfl) pF (di hn E) sG (Y.weaken hn)
 | @oD rf live x s f first cap fn R1 R pF hx hf hp h k O=>
  intro N code D J n Q c w a L gp B;have s8:=L pF;subst s8
  cases D with
  | oD B8 vB=>
   obtain⟨func,code,h1,W,t1,t2,t3,_⟩:=(hT.fn f fn hf).ex;exact aoG gp B8 hx t3 vB (live:=live) (R1:=Fo R1) (R:=outs R) O k B
 | @exit id s R h=>
  intro N code D J n Q c w a L gp B;cases D;exact wpIn_exit (B _ c w a h rfl (b4 _) gp (Step.refl _ _ _ _))
 | @ret s R h=>
  intro N code D J n Q c w a L gp B;cases D;exact wpIn_ret (B _ c w a h rfl (b4 _) gp (Step.refl _ _ _ _))
 | @call f args H fn R1 R own hf hl h k O=>
  intro c w vs gp iJ;obtain⟨func,code,hs,V,t1,t2,t3,t7,t4,t5,t6⟩:=(hT.fn f fn hf).ex;have uU:=amW hT.rt t1 t2 t7;rw[t5]at uU;refine callsIn_wide (n:=0) |>.1 (callsIn_of_wp_marks (F:=FW bb) t1 t2 trivial (O fn.ntmps code (PS uU t4) bb 0 _ c w _ (λ_=>rfl) ⟨gp,adx iJ _,?_,.nil⟩ ?_))
  .simp;omega
  .intro o c' w' X Z pF E l8 Y;obtain⟨d,H',kY,r6⟩:=k o Z
   have h':∀s:St,o.st=s->∀H1,kill s.marks s.H=aE H1->∀d0,AL.results fn { s with H:=H1 }=aE d0->leave own H.l H1 d0=(d,H') ->
     LeavesInM (FW bb) 0 P func X.tmps (λe w'=>∃v c' d H',e = .returned v/\Fo R d H'/\H.l<=H'.l/\gI G c' H' w'/\gj c' w' v d/\Step H.l c H w c' H' w') X.defers .returning w':=by
    rintro s rfl H1 af0 d0 Eu af2;refine ahc l8.marks l8.gp af0 λw1 q1 q2 q3=>?_;have NV:lD G fn.ntmps c' w1 { o.st with H:=H1,marks:=[] } { X with defers:=[] }:=⟨q1,λj=>(l8.env j).p8 l8.gp.toHeapOK q2,l8.size,.nil⟩;obtain⟨v,hv,HV⟩:=am7 NV t6 (d:=d0) (by rw[<-Eu];exact am6 { o.st with H:=H1 } []);have t':H.l<=H1.l:=by rw[q3];exact E
    obtain⟨c2,k1,k2,k3,k4⟩:=Ap q1 t' own HV;rw[af2]at k1 k2 k3 k4;exact⟨v,hv,v,c2,d,H',rfl,r6,k4,k1,k2,(Y.trans q2 E).trans k3 (b4 _)⟩
   have rT:∀s:St,finish fn own H.l (.norm s)=aE (d,H')->∃H1,kill s.marks s.H=aE H1/\∃d0,AL.results fn { s with H:=H1 }=aE d0/\leave own H.l H1 d0=(d,H'):=by
    intro s hf;simp only[finish]at hf;split at hf
    .grind
    .cases hf
   cases o with
   | norm s=>
    obtain⟨H1,q1,d0,q2,q3⟩:=rT s kY;exact h' s rfl H1 q1 d0 q2 q3
   | ret s=>
    obtain⟨H1,q1,d0,q2,q3⟩:=rT s kY;exact h' s rfl H1 q1 d0 q2 q3
   | exit id s=>cases kY
end
def M5:ez->ez->Bool
 | .int k a,.int k' b=>decide (k=k')&&decide (a=b)
 | .bool a,.bool b=>a == b
 | .string a,.string b=>decide (a.data.toList=b.data.toList)
 | .nilFunc,.nilFunc=>dr
 | .tuple a,.tuple b=>a.toList.isEmpty&&b.toList.isEmpty
 | _,_=>er
mutual
def pq:D->D->Bool
 | .any,.any=>dr
 | .val a,.val b=>M5 a b
 | .agg a,.agg b=>tE a b
 | .tup a,.tup b=>tE a b
 | .sl n a,.sl m b=>decide (n=m)&&DF a b
 | .gi,.gi=>dr
 | .gf a b c d e,.gf a' b' c' d' e'=>decide (a=a')&&decide (b=b')&&decide (c=c')&&decide (d=d')&&decide (e=e')
 | .ptr a b c,.ptr a' b' c'=>decide (a=a')&&decide (b=b')&&decide (c=c')
 | .gC a,.gC b=>tE a b
 | .gH a,.gH b=>decide (a=b)
 | .iQ a,.iQ b=>decide (a=b)
 | .fn (.func f) a b,.fn (.func f') a' b'=>decide (f=f')&&tE a a'&&tE b b'
 | _,_=>er
def tE:List D->List D->Bool
 | [],[]=>dr
 | a::l,b::m=>pq a b&&tE l m
 | _,_=>er
def DF:List (List D)->List (List D)->Bool
 | [],[]=>dr
 | a::l,b::m=>tE a b&&DF l m
 | _,_=>er
end
def Bi:Env->Env->Bool
 | [],[]=>dr
 | (i,a)::l,(j,b)::m=>decide (i=j)&&pq a b&&Bi l m
 | _,_=>er
def DG:List (ez×D)->List (ez×D)->Bool
 | [],[]=>dr
 | (i,a)::l,(j,b)::m=>M5 i j&&pq a b&&DG l m
 | _,_=>er
def Qe:Ob->Ob->Bool
 | .row t g a,.row t' g' b=>decide (t=t')&&decide (g=g')&&tE a b
 | .map k a,.map k' b=>decide (k=k')&&DG a b
 | .iu r e s,.iu r' e' s'=>decide (r=r')&&Bi e e'&&decide (s=s')
 | .sh a p,.sh b q=>decide (a.data.toList=b.data.toList)&&decide (p=q)
 | .jo m s l,.jo m' s' l'=>pq m m'&&decide (s=s')&&decide (l=l')
 | .jH,.jH=>dr
 | .dead,.dead=>dr
 | .lT,.lT=>dr
 | _,_=>er
def Bj:gd->gd->Bool
 | [],[]=>dr
 | a::l,b::m=>Qe a b&&Bj l m
 | _,_=>er
def Gx(s t:St):Bool:=Bi s.env t.env&&Bj s.H t.H&&decide (s.marks=t.marks)&&(s.iG == t.iG)
def Qf:Out->Out->Bool
 | .norm s,.norm t=>Gx s t
 | .exit i s,.exit j t=>decide (i=j)&&Gx s t
 | .ret s,.ret t=>Gx s t
 | _,_=>er
def Qg(a b:D×gd):Bool:=pq a.1 b.1&&Bj a.2 b.2
def once{α:Type}(b:α->α->Bool):List α->List α
 | []=>[]
 | [a]=>[a]
 | a::l=>let m:=once b l;if m.any (b a)then m else a::m
def sW{α b:Type}:List α->(α->Option (List b))->Option (List b)
 | [],_=>aE []
 | [a],f=>f a
 | a::l,f=>match f a,sW l f with
  | some x,aE y=>aE (x++y)
  | _,_=>bb
abbrev y7:=dx->List D->gd->Option (List (D×gd))
abbrev CX:=IR->St->Option (List Out)
def refsOf(s:St)(args:List D):List Nat:=dedup (args.map (iB s.H 40)).flatten
def O1(cl:y7)(e:il)(f:dx)(s:St):Option (List St):=
 match kC s.env.get e.op with
 | none=>bb
 | some (f',args)=>if f'=f then(match cl f (args.map (gw (λ_=>bb) s.H 40)) []with
  | some l=>sW l λp=>match after s e.dst args p.1 p.2 with
   | some a=>aE [a]
   | none=>bb
  | none=>bb)else bb
def Tz(T:iF)(cl:y7)(e:il)(s:St):Option (List St):=
 match kC s.env.get e.op with
 | none=>bb
 | some (f,args)=>match T.fn f with
  | none=>bb
  | some fn=>
   match fn.full with
   | true=>match cl f args s.H with
    | some l=>aE (l.map λp=>{ s with env:=put s.env e.dst p.1,H:=p.2 })
    | none=>bb
   | false=>if fn.fz&&s.marks.isEmpty && !gK args then O1 cl e f (mj (refsOf s args) s)else O1 cl e f s
def TC(T:iF)(rd:CX)(e:il)(s:St)(v:Nat)(args:List D):Option (List St):=
 match s.H[v]? with
 | some (.iu rf env0 .ready)=>match T.round rf with
  | some Rd=>if args.l=Rd.params.l then
    match rd Rd.a { env:=uq Rd.params args env0,H:=s.H,iG:=dr }with
    | some b=>match sW b λo=>match o with
      | .norm s1=>match s1.H[v]? with
       | some (.iu rf1 lF .ready)=>if rf1=rf then rd Rd.b { s1 with H:=s1.H.set v (.iu rf lF .busy) }else bb
       | _=>bb
      | _=>bb with
     | some a=>sW a λo=>match o.st.H[v]? with
      | some (.iu rf2 lQ .busy)=>if rf2=rf then aE [{ s with env:=put s.env e.dst (.b !o.stop),H:=o.st.H.set v (.iu rf lQ o.AM) }]else bb
      | _=>bb
     | none=>bb
    | none=>bb
   else bb
  | none=>bb
 | _=>bb
def TB(e:il)(s:St)(x:X):Option (List St):=
 match ev s.env.get x with
 | .ptr v 0 0=>match s.H[v]? with
  | some (.jo (.gH m) since seen)=>match s.H[m]? with
   | some (.map _ es)=>if es.l=since then
     let left:=(e8 es.l).filter λi => !seen.contains i
     if left.isEmpty then aE [{ s with env:=put s.env e.dst (.tup [.b er]) }]else
      aE (left.filterMap λi=>match es[i]? with
       | some (k,d)=>aE { s with env:=put s.env e.dst (.tup [.b dr,sM k,d]),H:=s.H.set v (.jo (.gH m) since (seen ++ [i])) }
       | none=>bb)
    else bb
   | _=>bb
  | _=>bb
 | _=>bb
def xC(T:iF)(cl:y7)(rd:CX):List il->St->Option (List St)
 | [],s=>aE [s]
 | e::r,s=>match guardOf s.env.get e.guard with
  | none=>bb
  | some er=>xC T cl rd r { s with env:=put s.env e.dst (.val undef) }
  | some dr=>match gW s.env.get s.H s.H.l e.op with
   | some (d,δ)=>xC T cl rd r { s with env:=put s.env e.dst d,H:=δ.app s.H (Al.last s.H) }
   | none=>match mH s.env.get s.H s.H.l e.op with
    | some (d,δ)=>xC T cl rd r { s with env:=put s.env e.dst d,H:=δ.app s.H (Al.last s.H) }
    | none=>match e.op with
     | .nextM x=>match TB e s x with
      | some l=>sW l λa=>xC T cl rd r a
      | none=>bb
     | _=>match yieldOf s.env.get e.op with
      | some (v,args)=>match TC T rd e s v args with
       | some l=>sW l λa=>xC T cl rd r a
       | none=>bb
      | none=>match kC s.env.get e.op with
       | none=>bb
       | some _=>match Tz T cl e s with
        | some l=>sW l λa=>xC T cl rd r a
        | none=>bb
def isN:iT->Bool
 | .callN _ _=>dr
 | _=>er
def yV(T:iF)(cl:y7)(st:Bool):List il->St->Option (List Rc×St)
 | [],s=>aE ([],s)
 | e::r,s=>match guardOf s.env.get e.guard with
  | none=>bb
  | some er=>match yV T cl st r { s with env:=put s.env e.dst (.val undef) }with
   | some (rs,s')=>aE (⟨[],[]⟩::rs,s')
   | none=>bb
  | some dr=>match gW s.env.get s.H s.H.l e.op with
   | some (d,δ)=>match yV T cl st r { s with env:=put s.env e.dst d,H:=δ.app s.H (Al.last s.H) }with
    | some (rs,s')=>aE (⟨gT s.env.get s.H e.op,kd s.H.l δ⟩::rs,s')
    | none=>bb
   | none=>match kC s.env.get e.op with
    | none=>bb
    | some (f,args)=>match T.fn f with
     | none=>bb
     | some fn=>if fn.full||(st&&fn.fz && !gK args && !isN e.op)then bb else match cl f (args.map (gw (λ_=>bb) s.H 40)) []with
      | some [(d,[])]=>if (if gK args then closed d else flat d)then(match yV T cl st r { s with env:=put s.env e.dst d }with
       | some (rs,s')=>aE (⟨gT s.env.get s.H e.op,[]⟩::rs,s')
       | none=>bb)else(match e.op with
       | .callN _ _=>match (args.map (iB s.H 40)).flatten with
        | v::l=>if (l.all λu=>decide (u=v))&&(rowsOf s.H v).isSome&&gK (args.map (gw (λ_=>bb) s.H 40))&&closed d then(match yV T cl st r { s with env:=put s.env e.dst d,H:=s.H.set v .dead }with
         | some (rs,s')=>aE (⟨gT s.env.get s.H e.op,[(v,bb)]⟩::rs,s')
         | none=>bb)else bb
        | []=>bb
       | _=>bb)
      | some [(d,[ob])]=>match e.op with
       | .callN _ _=>if (if gK args then mL d&&nN ob else oR d&&pv ob)then(match yV T cl st r { s with env:=put s.env e.dst (kE s.H.l d),H:=s.H ++ [ob] }with
        | some (rs,s')=>aE (⟨gT s.env.get s.H e.op,[(s.H.l,bb)]⟩::rs,s')
        | none=>bb)else bb
       | _=>bb
      | _=>bb
def sf(T:iF)(cl:y7)(d:Nat->List Nat->IR->St->Option (List Out))(rd:CX):IR->St->Option (List Out)
 | .skip,s=>aE [.norm s]
 | .ops l,s=>match xC T cl rd l s with
  | some l=>aE (l.map .norm)
  | none=>bb
 | .mg jQ l,s=>match yV T cl dr l s with
  | some (rs,e)=>if wu jQ rs then aE [.norm e]else bb
  | none=>if s.marks.isEmpty then(match yV T cl er l (mj (e8 s.H.l) s)with
   | some (rs,e)=>if wu jQ rs then aE [.norm e]else bb
   | none=>bb)else bb
 | .mS ..,_=>bb
 | .seq a b,s=>match sf T cl d rd a s with
  | some l=>sW l λo=>match o with
   | .norm e=>sf T cl d rd b e
   | o=>aE [o]
  | none=>bb
 | .cond c a b,s=>match ev s.env.get c with
  | .val (.bool dr)=>sf T cl d rd a s
  | .val (.bool er)=>sf T cl d rd b s
  | _=>bb
 | .block id live a,s=>match sf T cl d rd a s with
  | some l=>aE (once Qf (l.map (l4 id s.H.l live)))
  | none=>bb
 | .loop live a,s=>d s.H.l live a { s with env:=forget live s.env }
 | .oD rf live x,s=>if s.iG then bb else match ev s.env.get x with
  | .fn (.func f) first cap=>match T.fn f with
   | some fn=>if fn.full then
     match cl f (first ++ [.iQ (s.H.l+1)]++cap) (s.H ++ [.jH,.iu rf (forget live s.env) .ready])with
     | some l=>sW l λp=>match p.2[s.H.l+1]? with
      | some (.iu rf' _ st)=>if rf'=rf then(match AE { s with H:=p.2.set (s.H.l+1) .dead,marks:=s.H.l::s.marks } st with
       | some o=>aE [o]
       | none=>bb)else bb
      | _=>bb
     | none=>bb
    else bb
   | none=>bb
  | _=>bb
 | .exit id,s=>aE [.exit id s]
 | .ret,s=>aE [.ret s]
 | .bad,_=>bb
 | .fz _ _,_=>bb
 | .vu _ _ _,_=>bb
abbrev wO:=List (dx×List D×List (D×gd))
def IQ:wO->dx->List D->Option (List (D×gd))
 | [],_,_=>bb
 | (g,wU,l)::M,f,args=>match Nat.beq g f with
  | true=>match tE wU args with
   | true=>aE l
   | false=>IQ M f args
  | false=>IQ M f args
def known(M:wO)(f:dx)(args:List D):gd->Option (List (D×gd))
 | []=>IQ M f args
 | _=>bb
mutual
def CD(T:iF)(M:wO):Nat->Nat->List Nat->IR->St->Option (List Out)
 | 0,_,_,_,_=>bb
 | k+1,n,live,a,s=>match sf T (run T M k) (CD T M k) (E7 T M k) a s with
  | some l=>sW l λo=>match o with
   | .norm b=>CD T M k n live a (cut n live b)
   | o=>aE [o]
  | none=>bb
def E7(T:iF)(M:wO):Nat->CX
 | 0,_,_=>bb
 | k+1,c,s=>sf T (run T M k) (CD T M k) (E7 T M k) c s
def run(T:iF)(M:wO):Nat->y7
 | 0,_,_,_=>bb
 | k+1,f,args,H=>match known M f args H with
  | some l=>aE l
  | none=>match T.fn f with
  | none=>bb
  | some fn=>if args.l<=fn.ntmps then(match sf T (run T M k) (CD T M k) (E7 T M k) fn.body { env:=ti args,H:=H }with
   | some l=>match sW l λo=>match finish fn fn.own H.l o with
     | some p=>aE [p]
     | none=>bb with
    | some ps=>aE (once Qg ps)
    | none=>bb
   | none=>bb)else bb
end
def V1{a b:ez}(h:M5 a b=dr):a=b:=by
 unfold M5 at h;split at h
 .grind
 .grind
 .rename_i a b;simp only[decide_eq_true_eq]at h
  have:a=b:=by cases a;cases b;congr 1;exact Array.ext' h
  rw[this]
 .rfl
 .grind
 .cases h
mutual
theorem Gw:∀ {a b:D},pq a b=dr->a=b
 | .any,b,h=>by cases b<;>simp[pq]at h ⊢
 | .val a,b,h=>by cases b<;>simp[pq]at h ⊢;exact V1 h
 | .agg a,b,h=>by cases b<;>simp[pq]at h ⊢;exact x6 h
 | .tup a,b,h=>by cases b<;>simp[pq]at h ⊢;exact x6 h
 | .sl n a,b,h=>by cases b<;>simp[pq]at h ⊢;exact⟨h.1,VW h.2⟩
 | .gi,b,h=>by cases b<;>simp[pq]at h ⊢
 | .kW _,b,h=>by cases b<;>simp[pq]at h
 | .gf a1 a2 a3 a4 a5,b,h=>by cases b<;>simp[pq]at h ⊢;simp[h]
 | .ptr a1 a2 a3,b,h=>by cases b<;>simp[pq]at h ⊢;simp[h]
 | .gC a,b,h=>by cases b<;>simp[pq]at h ⊢;exact x6 h
 | .gH a,b,h=>by cases b<;>simp[pq]at h ⊢;exact h
 | .iQ a,b,h=>by cases b<;>simp[pq]at h ⊢;exact h
 | .fn f a a',b,h=>by
  cases f<;>cases b<;>first|(simp[pq]at h;done)|skip
  rename_i f g b c;cases g<;>simp[pq]at h ⊢;exact⟨h.1.1,x6 h.1.2,x6 h.2⟩
theorem x6:∀ {a b:List D},tE a b=dr->a=b
 | [],[],_=>rfl
 | a::l,b::m,h=>by simp only[tE,ai]at h;rw[Gw h.1,x6 h.2]
 | [],_::_,h=>by simp[tE]at h
 | _::_,[],h=>by simp[tE]at h
theorem VW:∀ {a b:List (List D)},DF a b=dr->a=b
 | [],[],_=>rfl
 | a::l,b::m,h=>by simp only[DF,ai]at h;rw[x6 h.1,VW h.2]
 | [],_::_,h=>by simp[DF]at h
 | _::_,[],h=>by simp[DF]at h
end
theorem Qc:∀ {a b:Env},Bi a b=dr->a=b
 | [],[],_=>rfl
 | (i,a)::l,(j,b)::m,h=>by simp only[Bi,ai,decide_eq_true_eq]at h;rw[h.1.1,Gw h.1.2,Qc h.2]
 | [],_::_,h=>by simp[Bi]at h
 | _::_,[],h=>by simp[Bi]at h
theorem VX:∀ {a b:List (ez×D)},DG a b=dr->a=b
 | [],[],_=>rfl
 | (i,a)::l,(j,b)::m,h=>by simp only[DG,ai]at h;rw[V1 h.1.1,Gw h.1.2,VX h.2]
 | [],_::_,h=>by simp[DG]at h
 | _::_,[],h=>by simp[DG]at h
def ady{a b:Ob}(h:Qe a b=dr):a=b:=by
 unfold Qe at h;split at h
 .simp only[ai,decide_eq_true_eq]at h;rw[h.1.1,h.1.2,x6 h.2]
 .simp only[ai,decide_eq_true_eq]at h;rw[h.1,VX h.2]
 .simp only[ai,decide_eq_true_eq]at h;rw[h.1.1,Qc h.1.2,h.2]
 .rename_i a p b q;simp only[ai,decide_eq_true_eq]at h
  have:a=b:=by cases a;cases b;congr 1;exact Array.ext' h.1
  rw[this,h.2]
 .simp only[ai,decide_eq_true_eq]at h;rw[Gw h.1.1,h.1.2,h.2]
 .rfl
 .rfl
 .rfl
 .cases h
theorem Qd:∀ {a b:gd},Bj a b=dr->a=b
 | [],[],_=>rfl
 | a::l,b::m,h=>by simp only[Bj,ai]at h;rw[ady h.1,Qd h.2]
 | [],_::_,h=>by simp[Bj]at h
 | _::_,[],h=>by simp[Bj]at h
def Qh{a b:St}(h:Gx a b=dr):a=b:=by obtain⟨e,H,m,r⟩:=a;obtain⟨j,H',i,g⟩:=b;simp only[Gx,ai,decide_eq_true_eq,beq_iff_eq]at h;obtain⟨⟨⟨h1,f⟩,d⟩,c⟩:=h;rw[Qc h1,Qd f,d,c]
def adz{a b:Out}(h:Qf a b=dr):a=b:=by
 unfold Qf at h;split at h
 .rw[Qh h]
 .simp only[ai,decide_eq_true_eq]at h;rw[h.1,Qh h.2]
 .rw[Qh h]
 .cases h
def adA{a b:D×gd}(h:Qg a b=dr):a=b:=by simp only[Qg,ai]at h;exact dh (Gw h.1) (Qd h.2)
theorem OI{α:Type}{d:α->α->Bool}(h:∀a b,d a b=dr->a=b):∀ {l:List α} {a:α},a∈l->a∈once d l
 | [a],b,hb=>hb
 | a::b::l,c,hc=>by
  rw[once]
  .split
   .rename_i e;rcases av.1 hc with rfl|hc
    .grind
    .exact OI h hc
   .rcases av.1 hc with rfl|hc
    .grind
    .exact bf _ (OI h hc)
  .grind
theorem xR{α g:Type}{f:α->Option (List g)}:∀ {l:List α} {r:List g},sW l f=aE r->∀a∈l,∃y,f a=aE y/\∀b∈y,b∈r
 | [],r,_,a,ha=>by simp at ha
 | [a],r,h,b,hb=>by simp only[ep]at hb;subst hb;exact⟨r,h,λ_ h=>h⟩
 | a::b::l,r,h,c,hc=>by
  rw[sW]at h
  .split at h
   .rename_i x y m j;cases h;rcases av.1 hc with rfl|hc
    .grind
    .obtain⟨z,i,e⟩:=xR j c hc;exact⟨z,i,λd k=>bL _ (e d k)⟩
   .cases h
  .grind
section
variable{T:iF}{cl:y7}{rd:CX}
def wN(l:List Out):ph->Prop:=λr=>∃o∈l,r = .out o
def FU(l:List St):ph->Prop:=λr=>∃s∈l,r = .out (.norm s)
def ly(l:List (D×gd)):ph->Prop:=λr=>∃p∈l,r = .val p.1 p.2
def sk(T:iF)(cl:y7):Prop:=∀f args H l,cl f args H=aE l->Ev T (.call f args H) (ly l)
def Mg(T:iF)(rd:CX):Prop:=∀c s l,rd c s=aE l->Ev T (.code c s) (wN l)
theorem wN.out{l:List Out}{o:Out}(h:wN l (.out o)):o∈l:=by obtain⟨o',h1,a⟩:=h;cases a;exact h1
theorem ly.val{l:List (D×gd)}{d:D}{H:gd}(h:ly l (.val d H)):(d,H)∈l:=by obtain⟨o',h1,a⟩:=h;cases a;exact h1
theorem FU.sub{a b:List St}(h:∀s∈a,s∈b){r:ph}(c:FU a r):FU b r:=by obtain⟨s,h1,d⟩:=c;exact⟨s,h s h1,d⟩
theorem wN.sub{a b:List Out}(h:∀s∈a,s∈b){r:ph}(c:wN a r):wN b r:=by obtain⟨s,h1,d⟩:=c;exact⟨s,h s h1,d⟩
theorem afl{S:List Nat}{s:St}{g:Option (Nat×Bool)}{b:Bool}(h:guardOf s.env.get g=aE b):guardOf (mj S s).env.get g=aE b:=by
 cases g with
 | none=>exact h
 | some p=>
  simp only[guardOf,mj]at h ⊢
  have e:Env.get (s.env.map λp=>(p.1,gw (iR (mJ s.H S)) s.H 40 p.2)) p.1=gw (iR (mJ s.H S)) s.H 40 (s.env.get p.1):=by
   generalize s.env=env
   induction env with
   | nil=>rfl
   | cons q r c=>
    obtain⟨j,d⟩:=q;simp only[List.map_cons,Env.w7];split
    .rfl
    .exact c
  rw[e];split at h
  .rename_i x a;rw[a];have:gw (iR (mJ s.H S)) s.H 40 (.val (.bool x)) = .val (.bool x):=by unfold gw;rfl
   rw[this];exact h
  .rename_i vs a;rw[a];have:gw (iR (mJ s.H S)) s.H 40 (.val (.tuple vs)) = .val (.tuple vs):=by unfold gw;rfl
   rw[this];exact h
  .cases h
theorem aaT(q:sk T cl){e:il}{r:List il}{f:dx}{fn:jq}{s:St}{l:List St}{R:ph->Prop}(hg:guardOf s.env.get e.guard=aE dr)(o:T.fn f=aE fn)(n:fn.full=er)
  (h:O1 cl e f s=aE l) (k:∀b∈l,Ev T (.ops r b) R):Ev T (.ops (e::r) s) R:=by
 unfold O1 at h;split at h
 .cases h
 .rename_i f' args p;split at h
  .rename_i t;subst t;split at h
   .rename_i u j;have g:=xR h;refine .Gg hg p o n (q _ _ _ _ j) (λd Hn c=>?_) λd Hn b c m=>?_
    .obtain⟨y,a,_⟩:=g _ c.val;dsimp only at a;split at a
     .grind
     .cases a
    .obtain⟨y,a,i⟩:=g _ c.val;dsimp only at a;rw[m]at a;cases a;exact k b (i b fZ)
   .cases h
  .cases h
theorem anv(c:sk T cl){e:il}{r:List il}{s:St}{l:List St}{R:ph->Prop}(hg:guardOf s.env.get e.guard=aE dr)
  (h:Tz T cl e s=aE l) (k:∀i∈l,Ev T (.ops r i) R):Ev T (.ops (e::r) s) R:=by
 unfold Tz at h;split at h
 .cases h
 .rename_i f args n;split at h
  .cases h
  .rename_i fn b;split at h
   .rename_i a;split at h
    .rename_i o j;cases h;refine .Gf hg n b a (c _ _ _ _ j) λd H' m=>k _ ?_;exact az.2 ⟨(d,H'),m.val,rfl⟩
    .cases h
   .rename_i a;split at h
    .rename_i g;simp only[ai,ej]at g;refine .mj (refsOf s args) ?_ (aaT c (afl hg) b a h k);rw[g.1.2];rfl
    .exact aaT c hg b a h k
theorem anx(g:Mg T rd){e:il}{r:List il}{s:St}{v:Nat}{args:List D}{l:List St}{R:ph->Prop}(hg:guardOf s.env.get e.guard=aE dr)(A:yieldOf s.env.get e.op=aE (v,args))
  (h:TC T rd e s v args=aE l) (k:∀p∈l,Ev T (.ops r p) R):Ev T (.ops (e::r) s) R:=by
 unfold TC at h;split at h
 .rename_i rf env0 x;split at h
  .rename_i Rd B;split at h
   .rename_i hl;split at h
    .rename_i E n;split at h
     .rename_i w f;have m:=xR f;have j:=xR h;refine .Mu hg A x B hl (g _ _ _ n) (Rb:=wN w) (λo b=>?_) (λs1 i u c=>?_) (λo b=>?_) λo F b t=>?_
      .obtain⟨y,a,_⟩:=m o b.out;split at a
       .rename_i s1;split at a
        .rename_i q i c;split at a
         .rename_i C;subst C;exact⟨rfl,i,c⟩
         .cases a
        .cases a
       .cases a
      .obtain⟨y,a,d⟩:=m _ u.out;simp only[c,if_true]at a;exact(g _ _ _ a).mono λr z=>z.sub d
      .obtain⟨y,a,_⟩:=j o b.out;split at a
       .grind
       .cases a
      .obtain⟨y,a,d⟩:=j o b.out;simp only[t,if_true]at a;cases a;exact k _ (d _ fZ)
     .cases h
    .cases h
   .cases h
  .cases h
 .cases h
theorem anw{e:il}{r:List il}{s:St}{x:X}{l:List St}{R:ph->Prop}(hg:guardOf s.env.get e.guard=aE dr)(b:e.op = .nextM x)
  (h:TB e s x=aE l) (k:∀a∈l,Ev T (.ops r a) R):Ev T (.ops (e::r) s) R:=by
 unfold TB at h;split at h
 .rename_i v c;split at h
  .rename_i m since seen f;split at h
   .rename_i kk es g;split at h
    .rename_i hs;dsimp only at h;refine .next hg b c f g hs (λh0=>?_) λi kv d hi n=>?_
     .rw[if_pos]at h
      .grind
      .simp_all
     .have j:=(ae.1 hi).1;rw[if_neg]at h
      .grind
      .rw[ej,List.filter_eq_nil_iff];intro h0;have:=h0 i (by simpa using j);simp at this;exact n this
    .cases h
   .cases h
  .cases h
 .cases h
theorem IX(c:sk T cl)(b:Mg T rd):∀(l:List il) (s:St) (r:List St),xC T cl rd l s=aE r->Ev T (.ops l s) (FU r)
 | [],s,r,h=>by cases h;exact .nil ⟨s,fZ,rfl⟩
 | e::r,s,res,h=>by
  have g:∀ {l:List St},(sW l λa=>xC T cl rd r a)=aE res->∀a∈l,Ev T (.ops r a) (FU res):=λhl a m=>by obtain⟨y,n,j⟩:=xR hl a m;exact(IX c b r a y n).mono λ_ o=>o.sub j
  simp only[xC]at h;split at h
  .cases h
  .rename_i hg;exact .off hg (IX c b r _ _ h)
  .rename_i hg;split at h
   .rename_i d δ f;exact .op hg f (IX c b r _ _ h)
   .split at h
    .rename_i d δ f;exact .CL hg f (IX c b r _ _ h)
    .split at h
     .rename_i x k;split at h
      .rename_i l hl;exact anw hg k hl (g h)
      .cases h
     .split at h
      .rename_i v args i;split at h
       .rename_i l hl;exact anx b hg i hl (g h)
       .cases h
      .split at h
       .cases h
       .rename_i i;split at h
        .rename_i l hl;exact anv c hg hl (g h)
        .cases h
theorem CE(a:sk T cl)(st:Bool):∀(l:List il) (s:St) (rs:List Rc) (j:St),yV T cl st l s=aE (rs,j)->Ev T (.trace l s) (λr=>r = .tr rs j)
 | [],s,rs,j,h=>by cases h;exact .Jg rfl
 | e::r,s,rs,j,h=>by
  simp only[yV]at h;split at h
  .cases h
  .rename_i hg;split at h
   .rename_i h1;cases h;exact .Jh hg (CE a st r _ _ _ h1) λ_ _ h=>by cases h;rfl
   .cases h
  .rename_i hg;split at h
   .rename_i d δ x;split at h
    .rename_i h1;cases h;exact .Ji hg x (CE a st r _ _ _ h1) λ_ _ h=>by cases h;rfl
    .cases h
   .split at h
    .cases h
    .rename_i f args q;split at h
     .cases h
     .rename_i fn p;split at h
      .cases h
      .rename_i A;have o:fn.full=false:=jS;split at h
       .rename_i d k
        by_cases b:(if gK args=dr then closed d else flat d)=dr
        .rw[if_pos b]at h;split at h
         .rename_i h1;cases h;refine .Jc hg q p o (a _ _ _ _ k) (λd' Hn i=>?_) b (CE a st r _ _ _ h1) λ_ _ h=>by cases h;rfl
          have:=i.val;simp only[ep,dD]at this;exact this
         .cases h
        .rw[if_neg b]at h;split at h
         .rename_i g m c;split at h
          .rename_i v l w;split at h
           .rename_i t;simp only[ai,cc,decide_eq_true_eq]at t;obtain⟨⟨⟨C,c2⟩,z⟩,y⟩:=t;split at h
            .rename_i h1;cases h;have n:aE (g,m.map (ev s.env.get))=aE (f,args):=by rw[<-q,c];rfl
             cases n;refine .Jf (v:=v) hg c rfl p o (λu B=>?_) (by rw[w];simp) c2 z (a _ _ _ _ k) (λd' Hn i=>?_) y (CE a st r _ _ _ h1) λ_ _ h=>by cases h;rfl
             .grind
             .have:=i.val;simp only[ep,dD]at this;exact this
            .cases h
           .cases h
          .cases h
         .cases h
       .rename_i d ob k;split at h
        .rename_i g m c
         by_cases b:(if gK args=dr then mL d&&nN ob else oR d&&pv ob)=dr
         .rw[if_pos b]at h;split at h
          .rename_i h1;cases h;have n:aE (g,m.map (ev s.env.get))=aE (f,args):=by rw[<-q,c];rfl
           cases n;refine .Je hg c rfl p o (a _ _ _ _ k) (λd' Hn i=>?_) b (CE a st r _ _ _ h1) λ_ _ h=>by cases h;rfl
           have:=i.val;simp only[ep,dD]at this;exact this
          .cases h
         .grind
        .cases h
       .cases h
theorem TA(q:sk T cl)(E:Mg T rd){C:Nat->List Nat->IR->St->Option (List Out)}(A:∀n live a s l,C n live a s=aE l->Ev T (.loop n live a s) (wN l)) :
  ∀(c:IR) (s:St) (l:List Out),sf T cl C rd c s=aE l->Ev T (.code c s) (wN l):=by
 intro c
 induction c with
 | skip=>intro s l h;cases h;exact .skip ⟨_,fZ,rfl⟩
 | ops ops=>
  intro s l h;simp only[sf]at h;split at h
  .rename_i u h1;cases h;refine .Gq ((IX q E _ _ _ h1).mono λr w=>?_);obtain⟨j,v,rfl⟩:=w;exact⟨_,az.2 ⟨j,v,rfl⟩,rfl⟩
  .cases h
 | mS J ops es=>intro s l h;simp[sf]at h
 | mg J ops=>
  intro s l h;simp only[sf]at h;split at h
  .rename_i rs j h1;split at h
   .rename_i z;cases h;exact .mg (CE q _ _ _ _ _ h1) λ_ _ h=>by cases h;exact⟨z,_,fZ,rfl⟩
   .cases h
  .split at h
   .rename_i i;split at h
    .rename_i rs j h1;split at h
     .rename_i z;cases h;refine .GN (e8 s.H.l) ?_ (.mg (CE q _ _ _ _ _ h1) λ_ _ h=>by cases h;exact⟨z,_,fZ,rfl⟩);rw[ej]at i;rw[i];rfl
     .cases h
    .cases h
   .cases h
 | seq a b k t=>
  intro s l h;simp only[sf]at h;split at h
  .rename_i u h1;have i:=xR h;refine .seq (k _ _ h1) (λj v=>?_) λo p M=>?_
   .obtain⟨y,g,m⟩:=i _ v.out;exact(t _ _ g).mono λ_ w=>w.sub m
   .obtain⟨y,g,m⟩:=i _ p.out
    cases o with
    | norm=>cases M
    | exit id j=>cases g;exact⟨_,m _ fZ,rfl⟩
    | ret j=>cases g;exact⟨_,m _ fZ,rfl⟩
  .cases h
 | cond c a b k t=>
  intro s o h;simp only[sf]at h;split at h
  .rename_i B;exact .cond (x:=dr) B (k _ _ h)
  .rename_i B;exact .cond (x:=er) B (t _ _ h)
  .cases h
 | block id live a k=>
  intro s l h;simp only[sf]at h;split at h
  .rename_i u h1;cases h;refine .block (k _ _ h1) λo p=>⟨_,OI (λ_ _=>adz) (az.2 ⟨o,p.out,rfl⟩),rfl⟩
  .cases h
 | loop live a k=>intro s o h;exact .loop (A _ _ _ _ _ h)
 | oD rf live x=>
  intro s l h;simp only[sf]at h;split at h
  .cases h
  .rename_i G;split at h
   .rename_i f first cap hx
    split at h
    .rename_i fn K;split at h
     .rename_i D;split at h
      .rename_i u I;have i:=xR h;refine .oD (by simpa using G) hx K D (q _ _ _ _ I) λd H' L=>?_;obtain⟨y,g,m⟩:=i _ L.val;dsimp only at g;split at g
       .rename_i F env st H;split at g
        .rename_i e;subst e;split at g
         .rename_i o p;cases g;exact⟨env,st,o,H,p,_,m _ fZ,rfl⟩
         .cases g
        .cases g
       .cases g
      .cases h
     .cases h
    .cases h
   .cases h
 | exit id=>intro s o h;cases h;exact .exit ⟨_,fZ,rfl⟩
 | ret=>intro s o h;cases h;exact .ret ⟨_,fZ,rfl⟩
 | bad=>intro s o h;cases h
 | fz _ _=>intro s o h;cases h
 | vu _ _ _=>intro s o h;cases h
end
section
variable{T:iF}
def lN(T:iF)(M:wO):Prop:=∀p∈M,Ev T (.call p.1 p.2.1 []) (ly p.2.2)
theorem lN.nil(T:iF):lN T []:=λp a=>by cases a
theorem lN.cons{T:iF}{f:dx}{args:List D}{l:List (D×gd)}{M:wO}(h:Ev T (.call f args []) (ly l))(t:lN T M):lN T ((f,args,l)::M):=λp a=>by
 rcases av.1 a with rfl|a
 .exact h
 .exact t p a
theorem amY{M:wO}(hM:lN T M){f:dx}{args:List D}{l:List (D×gd)}(h:IQ M f args=aE l):Ev T (.call f args []) (ly l):=by
 induction M with
 | nil=>cases h
 | cons p M i=>
  obtain⟨g,a,e⟩:=p;have d:lN T M:=λq b=>hM q (by simp[b]);simp only[IQ]at h;split at h
  .rename_i hg;split at h
   .rename_i c;cases h;have:=hM (g,a,l) fZ;rw[x6 c,cu hg]at this;exact this
   .grind
  .grind
theorem aaW{M:wO}(hM:lN T M):∀k:Nat,(∀n live a s l,CD T M k n live a s=aE l->Ev T (.loop n live a s) (wN l))/\Mg T (E7 T M k)/\sk T (run T M k)
 | 0=>⟨λ_ _ _ _ _ h=>by simp[CD]at h,λ_ _ _ h=>by simp[E7]at h,λ_ _ _ _ h=>by simp[run]at h⟩
 | k+1=>by
  obtain⟨e,j,i⟩:=aaW hM k;refine⟨λn live a s l h=>?_,λc s l h=>?_,λf args H l h=>?_⟩
  .simp only[CD]at h;split at h
   .rename_i r h1;have g:=xR h;refine .Aq (TA i j e _ _ _ h1) (λq u=>?_) λo m A=>?_
    .obtain⟨y,b,d⟩:=g _ u.out;exact(e _ _ _ _ _ b).mono λ_ v=>v.sub d
    .obtain⟨y,b,d⟩:=g _ m.out
     cases o with
     | norm=>cases A
     | exit id q=>cases b;exact⟨_,d _ fZ,rfl⟩
     | ret q=>cases b;exact⟨_,d _ fZ,rfl⟩
   .cases h
  .simp only[E7]at h;exact TA i j e _ _ _ h
  .simp only[run]at h;split at h
   .rename_i r t;cases h
    cases H with
    | nil=>exact amY hM t
    | cons=>cases t
   split at h
   .cases h
   .rename_i fn x;split at h
    .rename_i hl;split at h
     .rename_i r h1;split at h
      .rename_i ps z;cases h;have g:=xR z;refine .call fn.own x hl (TA i j e _ _ _ h1) λo m=>?_;obtain⟨y,b,d⟩:=g _ m.out;split at b
       .rename_i p w;cases b;exact⟨p.1,p.2,w,p,OI (λ_ _=>adA) (d _ fZ),rfl⟩
       .cases b
      .cases h
     .cases h
    .cases h
theorem qv{M:wO}(hM:lN T M){k:Nat}{f:dx}{args:List D}{H:gd}{l:List (D×gd)}(h:run T M k f args H=aE l):Ev T (.call f args H) (ly l):=(aaW hM k).2.2 f args H l h
end
@[reducible] def o(k:Nat)(op:iT):il:={ dst:=aE k,op:=op,guard:=bb }
@[reducible] def u(op:iT):il:={ dst:=bb,op:=op,guard:=bb }
@[reducible] def og(j:Nat)(b:Bool)(k:Nat)(op:iT):il:={ dst:=aE k,op:=op,guard:=aE (j,b) }
@[reducible] def ug(j:Nat)(b:Bool)(op:iT):il:={ dst:=bb,op:=op,guard:=aE (j,b) }
def Zw(n:Nat):List D:=fa n (.val (.int .u32 0))
def Zb(n:Nat):List D:=fa n (.val (.int .u8 0))
def DR:List D:=([1779033703,3144134277,1013904242,2773480762,1359893119,2600822924,528734635,1541459225]:List Int).map λn=>.val (.int .u32 n)
def DY:List D:=([1116352408,1899447441,3049323471,3921009573,961987163,1508970993,2453635748,2870763221,3624381080,310598401,607225278,1426881987,1925078388,2162078206,2614888103,3248222580,3835390401,4022224774,264347078,604807628,770255983,1249150122,1555081692,1996064986,2554220882,2821834349,2952996808,3210313671,3336571891,3584528711,113926993,338241895,666307205,773529912,1294757372,1396182291,1695183700,1986661051,2177026350,2456956037,2730485921,2820302411,3259730800,3345764771,3516065817,3600352804,4094571909,275423344,430227734,506948616,659060556,883997877,958139571,1322822218,1537002063,1747873779,1955562222,2024104815,2227730452,2361852424,2428436474,2756734187,3204031479,3329325298]:List Int).map λn=>.val (.int .u32 n)
def nth:List (Option jq)->Nat->Option jq
 | [],_=>bb
 | a::_,0=>a
 | _::l,n+1=>nth l n
def assoc:List (Nat×qJ)->Nat->Option qJ
 | [],_=>bb
 | (k,R)::l,n=>if k=n then aE R else assoc l n
def elem(f:Nat):List Nat->Bool
 | []=>er
 | a::l=>if a=f then dr else elem f l
def Ga(fn:Func):Code:=fn.body.getD .skip
def CA(P:eh)(rf:Nat):Array Tmp:=match AN P rf with
 | some (_,ps,_,_)=>ps
 | none=>#[]
def Cx(P:eh)(rf:Nat):Code:=match AN P rf with
 | some (_,_,a,_)=>a
 | none=>.skip
def Cy(P:eh)(rf:Nat):Code:=match AN P rf with
 | some (_,_,_,b)=>b
 | none=>.skip
section
variable{P:eh}{G:GT}
theorem aff{f:dx}{fn:jq}{func:Func}{code:Code}{hs a:List (List Nat)}(h1:P.funcs[f]? = aE func)(h:func.body=aE code)(g:vq P f=dr)(e:(nZ code).l<=64)
  (d:cC P G fn.ntmps (64*f) hs code=aE (fn.body,a)) (c:func.ntmps=fn.ntmps) (b:A7 P func.results.toList=aE fn.results):FR P G f fn:=⟨⟨func,code,hs,a,h1,h,g,e,d,c,b⟩⟩
theorem Cz{rf:Nat}{R:qJ}{N:Nat}{ps:Array Tmp}{ac bc:Code}(d c:List (List Nat))(h1:G.rt rf=aE (N,ps,ac,bc))(h:ps.toList=R.params)(g:(R.params.all λp=>decide (p<N))=dr)
  (b:nZ ac = []/\nZ bc = []) (f:cC P G N 0 d ac=aE (R.a,[])) (e:cC P G N 0 c bc=aE (R.b,[])):vf P G rf R:=
 ⟨⟨N,ps,ac,bc,h1,h,g,PS (λi x a=>by rw[b.1]at a;cases a) f,PS (λi x a=>by rw[b.2]at a;cases a) e⟩⟩
inductive xL(P:eh)(G:GT):Nat->List (Option jq)->Prop
 | nil (k:Nat):xL P G k []
 | has {k:Nat} {fn:jq} {l:List (Option jq)} (h:FR P G k fn) (t:xL P G (k+1) l):xL P G k (aE fn::l)
 | no {k:Nat} {l:List (Option jq)} (t:xL P G (k+1) l):xL P G k (none::l)
inductive A2(P:eh)(G:GT):List (Nat×qJ)->Prop
 | nil:A2 P G []
 | cons {k:Nat} {R:qJ} {l:List (Nat×qJ)} (h:vf P G k R) (t:A2 P G l):A2 P G ((k,R)::l)
theorem xL.get:∀ {l:List (Option jq)} {k:Nat},xL P G k l->∀(i:Nat) (fn:jq),nth l i=aE fn->FR P G (k+i) fn:=by
 intro l k h
 induction h with
 | nil=>intro i fn hi;cases hi
 | has h t a=>
  intro i fn hi
  cases i with
  | zero=>cases hi;exact h
  | succ i=>
   have:=a i fn hi;rwa [a8,dw 1 i]at this
 | no t a=>
  intro i fn hi
  cases i with
  | zero=>cases hi
  | succ i=>
   have:=a i fn hi;rwa [a8,dw 1 i]at this
theorem A2.get{l:List (Nat×qJ)}(h:A2 P G l):∀(i:Nat) (R:qJ),assoc l i=aE R->vf P G i R:=by
 induction h with
 | nil=>intro i R hi;cases hi
 | @cons k R0 l h t a=>
  intro i R hi;simp only[assoc]at hi;split at hi
  .rename_i e;subst e;cases hi;exact h
  .exact a i R hi
theorem aon{l:List (Option jq)}{r:List (Nat×qJ)}{a:dx->Option Nat}(d:G.rt=AN P)(h:xL P G 0 l)(j:A2 P G r){b:dx->Bool}(i:∀f sz,a f=aE sz->xP P f sz)(g:∀f,b f=dr->A3 P f){c:dx->Bool}(e:∀f,c f=dr->AV P f):PH P G { fn:=nth l,round:=assoc r,sort:=a,tm:=b,s6:=c } where
 sort:=i
 tm:=g
 s6:=e
 rt:=d
 fn f fn hf:=by have:=h.get f fn hf;rwa [aR]at this
 round:=j.get
