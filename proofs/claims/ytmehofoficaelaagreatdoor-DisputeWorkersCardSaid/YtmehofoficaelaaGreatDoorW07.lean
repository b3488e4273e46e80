/- Part 7 of DisputeWorkers. -/
import Derived.Test.YtmehofoficaelaaGreatDoorW06
import Derived.KernelRfl
set_option linter.all false
namespace Go.AL
open Go
def CC(P:Program)(G:GT)(g:FuncId)(args:List D)(d:D)(Hn:U):Prop:=s5 P g=true/\y5 P G g args [] d Hn
def outs(R:pJ->Prop):Out->Prop:=λo=>R (.out o)
def E'(R:pJ->Prop):D->U->Prop:=λd H=>R (.val d H)
def Good(P:Program)(G:GT):AT->(pJ->Prop)->Prop
 | .ops l s,R=>∀(N:Nat) (A:Array Oper) (ops:List Oper),pM P G N A ops=some l ->
   ∀(e:Option Nat) (n:Nat) (Q:Exit->Act->World->Prop) (c:Ctx) (w:World) (a:Act),(s.iD=false->e=none)->lq G N c w s a->xJ G N s.H.length s.iD c s.H w (outs R) Q->wpListIn (FW e) n P A Q ops a w
 | .code ir s,R=>∀(N:Nat) (code:Code),nZ P G N ir code ->
   ∀(e:Option Nat) (n:Nat) (Q:Exit->Act->World->Prop) (c:Ctx) (w:World) (a:Act),(s.iD=false->e=none)->lq G N c w s a->xJ G N s.H.length s.iD c s.H w (outs R) Q->code.wpIn (FW e) n P Q a w
 | .loop n0 _ ir s,R=>n0<=s.H.length->∀(N:Nat) (code:Code),nZ P G N ir code ->
   ∀(e:Option Nat) (n:Nat) (Q:Exit->Act->World->Prop) (c:Ctx) (w:World) (a:Act),(s.iD=false->e=none)->lq G N c w s a->xJ G N n0 s.iD c s.H w (outs R) Q->Ml (FW e) n P code Q a w
 | .call f args H,R=>vc P G f args H (E' R)
 | .trace l s,R=>∃rs d,R (.tr rs d)/\s.H.length<=d.H.length/\d.marks=s.marks/\d.iD=s.iD/\∀(K k0:Nat),d.H.length<=K->∃b:List mJ,b.map (·.e)=l/\b.map (·.rc)=rs/\b.map (·.k)=List.range' k0 l.length /\
   Tx (CC P G) s.env.get (s.H++room (K-s.H.length)) b d.env.get (d.H++room (K-d.H.length))
section
variable{P:Program}{G:GT}{T:iB}
theorem xJ.mono{N n m:Nat}{iD:Bool}{c b:Ctx}{H H1:U}{w w1:World}{R:Out->Prop}{Q:Exit->Act->World->Prop}(h:xJ G N n iD c H w R Q)(hs:Step n c H w b H1 w1)(a:n<=m):xJ G N m iD b H1 w1 R Q:=
 λo c' w' g e d hl gf f=>h o c' w' g e d (Nat.le_trans a hl) gf (hs.trans f a)
theorem Gg{N:Nat}{A:Array Oper}{o:Oper}{r:List Oper}{l:List ic}(h:pM P G N A (o::r)=some l) :
  ∃e a,l=e::a/\wQ P G N A o=some e/\pM P G N A r=some a:=by
 simp only[pM]at h;split at h
 .grind
 .cases h
theorem acX{N:Nat}{A:Array Oper}{ops:List Oper}(h:pM P G N A ops=some []):ops = []:=by
 cases ops with
 | nil=>rfl
 | cons o r=>
  obtain⟨e,a,h1,_⟩:=Gg h;cases h1
theorem Vw{N:Nat}{A:Array Oper}:∀ {l es:List ic} {ops:List Oper},pM P G N A ops=some (l++es)->∃b a,ops=b++a/\pM P G N A b=some l/\pM P G N A a=some es
 | [],es,ops,h=>⟨[],ops,rfl,rfl,h⟩
 | e::l,es,ops,h=>by
  cases ops with
  | nil=>cases h
  | cons o r=>
   obtain⟨j,i,h1,g,f⟩:=Gg h;cases h1;obtain⟨b,a,rfl,d,c⟩:=Vw f;exact⟨o::b,a,rfl,by simp only[pM,g,d],c⟩
theorem Vx{N:Nat}{A:Array Oper}:∀ {ops:List Oper} {l:List ic},pM P G N A ops=some l->ops.length=l.length/\∀(i:Nat) (o:Oper) (e:ic),ops[i]? = some o->l[i]? = some e->wQ P G N A o=some e:=by
 intro ops
 induction ops with
 | nil=>intro l h;cases h;exact⟨rfl,λi o e h=>by simp at h⟩
 | cons o r f=>
  intro l h;obtain⟨e,g,rfl,h1,c⟩:=Gg h;obtain⟨q1,q2⟩:=f c;refine⟨by simp[q1],λi o' d a b=>?_⟩
  cases i with
  | zero=>simp at a b;subst a;subst b;exact h1
  | succ i=>exact q2 i o' d (by simpa using a) (by simpa using b)
theorem A5{N:Nat}{A:Array Oper}{ops:List Oper}{e:ic}{l:List ic}(h:pM P G N A ops=some (e::l)) :
  ∃o r,ops=o::r/\wQ P G N A o=some e/\pM P G N A r=some l:=by
 cases ops with
 | nil=>cases h
 | cons o r=>
  obtain⟨d,c,h1,b,a⟩:=Gg h;cases h1;exact⟨o,r,rfl,b,a⟩
theorem abr{N:Nat}{c:Ctx}{w:World}{s:St}{a:Act}{b:Option Nat}{n:Nat}{o:Oper}{g:iL}{f:FuncId}{args:List D}{next:Act->World->Prop}{Q:Exit->Act->World->Prop}(hs:lq G N c w s a)(i:nN P G o=some g)
  (x:tD N o.dst=true) (p:kK s.env.get g=some (f,args)) (m:s5 P f=true) {R:D->U->Prop}
  (q:∀vs:List Value,jC c w vs args->Calls P f vs.toArray w λe w'=>∃v c' d H',e = .returned v/\R d H'/\gE G c' H' w'/\gh c' w' v d/\Step s.H.length c s.H w c' H' w')
  (k:∀d H' c' w' l,R d H'->lq G N c' w' { s with env:=put s.env o.dst d,H:=H' } l->Step s.H.length c s.H w c' H' w'->next l w'):o.wpIn (FW b) n P a w next Q:=by
 obtain⟨vs,r,t⟩:=O0 hs.gf hs.env i p m;refine⟨λ_ _=>trivial,?_⟩;rw[Oper.semAt_plain (FW b) a.eval o (Ck i),r];refine⟨λh=>by simp[Fence.wide]at h,F7.2 ((q vs t).mono ?_)⟩;rintro e w' ⟨v,c',d,H',rfl,y,gf,u,j⟩;exact k d H' c' w' _ y (hs.next gf j x u) j
theorem abI{s s1:St}{dst:Option Nat}{args:List D}{r:D}{Hn:U}(h:after s dst args r Hn=some s1) :
  (if gF args then mO r&&Hn.all n5 else o3 r&&Hn.all pP)=true/\s1 = { s with env:=put s.env dst (kE s.H.length r),H:=s.H++Hn }:=by
 unfold after at h;generalize (if gF args=true then mO r&&Hn.all n5 else o3 r&&Hn.all pP)=b at h;cases b
 .cases h
 .grind
theorem aae{P:Program}{G:GT}{o:Oper}{b:iL}(a:nN P G o=some b):Pa b=false:=by
 unfold nN at a;split at a
 all_goals try simp only[aA,ag,aD]at a
 all_goals (repeat' first|(obtain⟨_,_,a⟩:=a)|split at a|simp only[ag]at a)
 all_goals first|rfl|(cases a;done)|(cases a;rfl)|(split<;>rfl)
theorem amS{P:Program}{G:GT}{o:Oper}{x:X}(a:nN P G o=some (.nextM x)):False:=by have:=aae a;cases this
theorem amT{P:Program}{G:GT}{o:Oper}{a:iL}(b:nN P G o=some a){f:gP}{H:U}{n:Nat}{r:D×Dl}(h:mz f H n a=some r):False:=by have:=aae b;cases a<;>first|(cases h;done)|(cases this;done)
theorem ani{fn:jw}(s:St)(ms:List Nat):AL.results fn { s with marks:=ms }=AL.results fn s:=by
 have h1:∀x,EP { s with marks:=ms } x=EP s x:=λx=>by cases x<;>rfl
 have b:∀l,u5 { s with marks:=ms } l=u5 s l:=by
  intro l
  induction l with
  | nil=>rfl
  | cons x r a=>simp only[u5,h1,a]
 simp only[AL.results,b]
theorem afj(hM:P.follows .mixedOrders=true)(hT:Py P G T){j:AT}{R:pJ->Prop}(h:Ev T j R):Good P G j R:=by
 induction h with
 | @mono j R R' h hi O=>
  cases j with
  | ops l s=>exactλN A ops D J n Q c w a L hs B=>O N A ops D J n Q c w a L hs λo c' w' W Y=>B o c' w' W (hi _ Y)
  | code ir s=>exactλN code D J n Q c w a L hs B=>O N code D J n Q c w a L hs λo c' w' W Y=>B o c' w' W (hi _ Y)
  | loop n0 live ir s=>exactλhn N code D J n Q c w a L hs B=>O hn N code D J n Q c w a L hs λo c' w' W Y=>B o c' w' W (hi _ Y)
  | call f args H=>exactλc w vs h1 V=>(O c w vs h1 V).mono λ_ _ ⟨v,c',d,H',he,Y,r⟩=>⟨v,c',d,H',he,hi _ Y,r⟩
  | trace l s=>
   obtain⟨rs,I,h1,V⟩:=O;exact⟨rs,I,hi _ h1,V⟩
 | @sort f g fn sz v gen t H R α fc l cf hs hg hl gI h0 wZ Ew tr nt D hv k vY=>
  obtain⟨func,code,h1,V,t1,t2,t3,_⟩:=(hT.fn g fn hg).ex;exact aoi (hT.sort f sz hs) t3 fc l hl gI h0 wZ cf Ew tr nt (λx hx y hy c w vs h1 V=>(vY x hx y hy c w vs h1 V).mono λ_ _ ⟨v,c',d,H',he,Y,r⟩=>⟨v,c',d,H',he,by obtain⟨_,e⟩:=Y;cases e;rfl,r⟩) hv k
 | @E0 f sz x H R hs k=>exact aoh (hT.sort f sz hs) (f:=f) (g:=0) k
 | @tt f v gen t H R l hs h0 wZ hv k=>exact aok (hT.tt f hs) l h0 wZ hv k
 | @sZ f v gen t zs H R l i hs hi hv k=>exact adf (hT.sZ f hs) l i hi hv k
 | @nil s R h=>
  intro N A ops D J n Q c w a L hs B;rw[acX D];exact B _ c w a h rfl (Nat.le_refl _) hs (Step.refl _ _ _ _)
 | @op e r s d δ R hg h t O=>
  have E:s.H.length<=(δ.app s.H (Al.last s.H)).length:=PF δ s.H;intro N A ops D J n Q c w a L hs B;obtain⟨o,r',rfl,ho,nV⟩:=A5 D;obtain⟨s1,s2,s3,s4⟩:=zx ho;have hw:=u9 hs.env s4 hg;simp only[wpListIn,hw,if_true];have s1:=Vr s1 h;refine aoO hs s1 s3 (nk.last s.H) h λc' w' W U X=>?_;rw[<-s2]at U;exact O N A r' nV J n Q c' w' W L U (B.mono X E)
 | @CJ e r s d δ R hg h t O=>
  have E:s.H.length<=(δ.app s.H (Al.last s.H)).length:=PF δ s.H;intro N A ops D J n Q c w a L hs B;obtain⟨o,r',rfl,ho,nV⟩:=A5 D;obtain⟨s1,s2,s3,s4⟩:=zx ho;have hw:=u9 hs.env s4 hg;simp only[wpListIn,hw,if_true];have s1:=s1.resolve_left λV=>amT V h;refine aoQ hs s1 s3 (nk.last s.H) h λc' w' W U X=>?_;rw[<-s2]at U;exact O N A r' nV J n Q c' w' W L U (B.mono X E)
 | @off e r s R hg t O=>
  intro N A ops D J n Q c w a L hs B;obtain⟨o,r',rfl,ho,nV⟩:=A5 D;obtain⟨s1,s2,s3,s4⟩:=zx ho;have hw:=u9 hs.env s4 hg;simp only[wpListIn,hw,bC,if_false];refine⟨λ_ _=>trivial,?_⟩;have U:=hs.next hs.gf (Step.refl _ _ _ _) s3 (v:=undef) (d:=.val undef) (.val _)
  rw[<-s2]at U;rw[<-s2];exact O N A r' nV J n Q c w _ L (by rw[s2]at U ⊢;exact U) B
 | @l8 l s R S hm t O=>
  have Z:(l8 S s).H.length=s.H.length:=Qv;intro N A ops D J n Q c w a L hs B;obtain⟨c',U,X,_⟩:=WR hs S;refine O N A ops D J n Q c' w a L U ?_;rw[Z];exact B.mono X (Nat.le_refl _)
 | @Gz code s R S hm t O=>
  have Z:(l8 S s).H.length=s.H.length:=Qv;intro N code D J n Q c w a L hs B;obtain⟨c',U,X,_⟩:=WR hs S;refine O N code D J n Q c' w a L U ?_;rw[Z];exact B.mono X (Nat.le_refl _)
 | @Qt l s R live t O=>
  intro N A ops D J n Q c w a L hs B;exact O N A ops D J n Q c w a L ⟨hs.gf,Dy hs.env live,hs.size,hs.marks⟩ B
 | @Gy code s R live t O=>
  intro N code D J n Q c w a L hs B;exact O N code D J n Q c w a L ⟨hs.gf,Dy hs.env live,hs.size,hs.marks⟩ B
 | @F6 e r s f args fn R1 R hg D hf hp h ha t vY O=>
  intro N A ops pT J n Q c w a L hs B;obtain⟨o,r',rfl,ho,nV⟩:=A5 pT;obtain⟨s1,s2,s3,s4⟩:=zx ho;have hw:=u9 hs.env s4 hg;simp only[wpListIn,hw,if_true];obtain⟨func,code,h1,V,t1,t2,t3,_⟩:=(hT.fn f fn hf).ex
  have jx:∀d Hn,E' R1 d Hn->(if gF args then mO d&&Hn.all n5 else o3 d&&Hn.all pP)=true/\after s e.dst args d Hn=some { s with env:=put s.env e.dst (kE s.H.length d),H:=s.H++Hn }:=λd Hn Y=>by obtain⟨I,U⟩:=da.1 (ha d Hn Y);obtain⟨k1,rfl⟩:=abI U;exact⟨k1,U⟩
  have s1:=Gc s1 D;refine abr hs s1 s3 D t3 (R:=λd H'=>∃d0 Hn,E' R1 d0 Hn/\d=kE s.H.length d0/\H'=s.H++Hn) (λvs il=>(am0 hs.gf il vY λd Hn Y=>(jx d Hn Y).1).mono ?_) ?_
  .grind
  .rintro d H' c' w' W ⟨d0,Hn,Y,rfl,rfl⟩ U X;rw[<-s2]at U;exact O d0 Hn _ Y (jx d0 Hn Y).2 N A r' nV J n Q c' w' W L U (B.mono X (by simp))
 | @F5 e r s f args fn R1 R hg D hf hp h t vY O=>
  intro N A ops pT J n Q c w a L hs B;obtain⟨o,r',rfl,ho,nV⟩:=A5 pT;obtain⟨s1,s2,s3,s4⟩:=zx ho;have hw:=u9 hs.env s4 hg;simp only[wpListIn,hw,if_true];obtain⟨func,code,h1,V,t1,t2,t3,_⟩:=(hT.fn f fn hf).ex;have s1:=Gc s1 D;refine abr hs s1 s3 D t3 (R:=λd H'=>E' R1 d H'/\s.H.length<=H'.length) (λvs il=>(vY c w vs hs.gf il).mono ?_) ?_
  .grind
  .rintro d H' c' w' W ⟨Y,E⟩ U X;rw[<-s2]at U;exact O d H' Y N A r' nV J n Q c' w' W L U (B.mono X E)
 | @My e r s v args rf env0 Rd Ra Rb R hg D hv Y hl ha hn hb hm t qn xl vZ=>
  intro N A ops pT J n Q c w a L hs B;obtain⟨o,r',rfl,ho,nV⟩:=A5 pT;obtain⟨s1,s2,s3,s4⟩:=zx ho;have hw:=u9 hs.env s4 hg;simp only[wpListIn,hw,if_true];obtain⟨M,ps,ac,bc,vz,Ec,gG,Ri,r6⟩:=(hT.round rf Rd Y).ex;rw[<-Ec]at hl qn gG
  have s1:=s1.resolve_right λV=>by
   have:=PZ V;unfold yieldOf at D;split at D
   .rename_i r5;rw[r5]at this;cases this
   .cases D
  refine aoR hs s1 s3 D hv vz (by simpa using hl) (λp hp=>by simpa using List.all_eq_true.1 gG p hp) (Ra:=outs Ra) (Rb:=outs Rb) ?_ hn ?_ hm ?_
  .exact λJ n Q c w a U jF=>qn M ac Ri J n Q c w a (λh=>by cases h) U jF
  .intro s1 lu zO pz oG J n Q c w a U jF;have:=xl s1 lu zO oG M bc r6 J n Q c w a (λh=>by simp[pz]at h) U;simp only[ao,pz]at this;exact this jF
  .intro q lH c' w' W vA pC E U X;rw[<-s2]at U;exact vZ q lH vA pC N A r' nV J n Q c' w' W L U (B.mono X (by simpa using E))
 | @next e r s x v m since seen kk es R hg iG hx hv hm nH h0 h1 r4 tY=>
  intro N A ops pT J n Q c w a L hs B;obtain⟨o,r',rfl,ho,nV⟩:=A5 pT;obtain⟨s1,s2,s3,s4⟩:=zx ho;have hw:=u9 hs.env s4 hg;simp only[wpListIn,hw,if_true];rw[iG]at s1;have s1:=s1.resolve_left λV=>amS V;refine aoN hs s1 s3 hx hv hm nH ?_ ?_
  .intro jo c' w' W U X;rw[<-s2]at U;exact r4 jo N A r' nV J n Q c' w' W L U (B.mono X (Nat.le_refl _))
  .intro i k d hi D6 c' w' W U X;rw[<-s2]at U;exact tY i k d hi D6 N A r' nV J n Q c' w' W L U (B.mono X (by simp))
 | @skip s R h=>
  intro N code D J n Q c w a L gf B;cases D;exact wpIn_skip (B _ c w a h rfl (Nat.le_refl _) gf (Step.refl _ _ _ _))
 | @Gf l s R h O=>
  intro N code D J n Q c w a L gf B
  cases D with
  | ops h=>exact wpIn_region_list (O N _ _ h J n Q c w a L gf B)
 | @seq a b s R1 R h k hs tY vX=>
  intro N code D J n Q c w a L gf B
  cases D with
  | seq h1 V=>
   refine wpIn_seq (tY N _ h1 J n _ c w a L gf λo c' w' W Y pz E sE X=>?_)
   cases o with
   | norm I=>
    have NW:I.iD=s.iD:=pz;refine vX I Y N _ V J n Q c' w' W (λh=>L (by rw[<-NW];exact h)) sE ?_;rw[NW];exact B.mono X E
   | exit id I=>exact B _ c' w' W (hs _ Y rfl) pz E sE X
   | ret I=>exact B _ c' w' W (hs _ Y rfl) pz E sE X
 | @cond c a b s x R D h O=>
  intro N code pT J n Q c w a L gf B
  cases pT with
  | @cond cx ca cb _ _ _ hx h1 V=>
   have hr:=iM gf.gf gf.env hx;rw[D]at hr
   have he:a.eval cx = .bool x:=by generalize a.eval cx=u at hr;cases hr;rfl
   refine wpIn_cond he ?_;cases x
   .exact O N _ V J n Q c w a L gf B
   .exact O N _ h1 J n Q c w a L gf B
 | @block id live a s R1 R h k O=>
  have Z:∀I:St,s.H.length<=I.H.length->s.H.length<=(cut s.H.length live I).H.length:=by
   intro I h1;unfold cut;split
   .exact h1
   .dsimp only;rw[O6];simp[ji]
  have Yh:∀I:St,(cut s.H.length live I).iD=I.iD:=by intro I;unfold cut;split<;>rfl
  intro N code D J n Q c w a L gf B
  cases D with
  | block h1=>
   refine wpIn_block (O N _ h1 J n _ c w a L gf λo c' w' W Y pz E sE X=>?_);have nR:=k o Y
   cases o with
   | norm I=>
    obtain⟨c2,ng,tf,_⟩:=zz sE E live;exact B (.norm (cut s.H.length live I)) c2 w' W nR ((Yh I).trans pz) (Z I E) ng (X.trans tf (Nat.le_refl _))
   | exit An I=>
    by_cases Rx:An=id
    .subst Rx;obtain⟨c2,ng,tf,_⟩:=zz sE E live;simp only[lP,if_true]at nR;have:=B (.norm (cut s.H.length live I)) c2 w' W nR ((Yh I).trans pz) (Z I E) ng (X.trans tf (Nat.le_refl _));simp only[Out.ex,Exit.inBlock,if_true]at this ⊢;exact this
    .simp only[lP,if_neg Rx]at nR;have:=B _ c' w' W nR pz E sE X;simp only[Out.ex,Exit.inBlock,if_neg Rx]at this ⊢;exact this
   | ret I=>exact B _ c' w' W nR pz E sE X
 | @I7 s R Y=>
  exact⟨[],s,Y,Nat.le_refl _,rfl,rfl,λK k0 hK=>⟨[],rfl,rfl,rfl,.nil⟩⟩
 | @I9 e r s d δ R1 R hg h t k O=>
  obtain⟨rs,I,s8,i1,i2,i4,i3⟩:=O;refine⟨_,I,k _ _ s8,Nat.le_trans (PF δ s.H) i1,i2,i4,λK k0 hK=>?_⟩;obtain⟨z,e1,e2,e3,ye⟩:=i3 K (k0+1) hK;obtain⟨a1,a2⟩:=PG (abP h) K (Nat.le_trans i1 hK);refine⟨⟨k0,e,s.H.length,⟨gT s.env.get s.H e.op,jV s.H.length δ⟩⟩::z,by simp[e1],by simp[e2],by simp[e3,cG],?_⟩
  have hE:Ef (CC P G) s.env.get (s.H++room (K-s.H.length)) e s.H.length ⟨gT s.env.get s.H e.op,jV s.H.length δ⟩ d δ:=by have:=Ef.op (C:=CC P G) (f:=s.env.get) (H:=s.H++room (K-s.H.length)) (e:=e) (n:=s.H.length) hg (by rw[abO];exact h) a2;rwa [Nk]at this
  refine .cons hE ?_;rw[a1];have hp:(put s.env e.dst d).get=mQ s.env.get e.dst d:=IB _ _ _;rw[<-hp];exact ye
 | @I8 e r s R1 R hg t k O=>
  obtain⟨rs,I,s8,i1,i2,i4,i3⟩:=O;refine⟨_,I,k _ _ s8,i1,i2,i4,λK k0 hK=>?_⟩;obtain⟨z,e1,e2,e3,ye⟩:=i3 K (k0+1) hK;refine⟨⟨k0,e,0,⟨[],[]⟩⟩::z,by simp[e1],by simp[e2],by simp[e3,cG],.cons (.off hg) ?_⟩;have hp:(put s.env e.dst (.val undef)).get=mQ s.env.get e.dst (.val undef):=IB _ _ _;rw[<-hp];exact ye
 | @I4 e r s f args fn d R0 R1 R hg D hf hp h h0 hr t k vY O=>
  obtain⟨rs,I,s8,i1,i2,i4,i3⟩:=O;refine⟨_,I,k _ _ s8,i1,i2,i4,λK k0 hK=>?_⟩;obtain⟨z,e1,e2,e3,ye⟩:=i3 K (k0+1) hK;refine⟨⟨k0,e,0,⟨gT s.env.get s.H e.op,[]⟩⟩::z,by simp[e1],by simp[e2],by simp[e3,cG],?_⟩;obtain⟨func,code,h1,V,t1,t2,t3,_⟩:=(hT.fn f fn hf).ex
  have hE:Ef (CC P G) s.env.get (s.H++room (K-s.H.length)) e 0 ⟨gT s.env.get s.H e.op,[]⟩ d .no:=by have e0:args.map (gq (λ_=>none) (s.H++room (K-s.H.length)) 40)=args.map (gq (λ_=>none) s.H 40):=aw λd _=>(IH 40 d).2;have:=Ef.call (C:=CC P G) (f:=s.env.get) (H:=s.H++room (K-s.H.length)) (e:=e) (n:=0) hg D (by rw[e0];exact⟨t3,vY.one h0⟩) hr;rwa [Nk]at this
  refine .cons hE ?_;have hp:(put s.env e.dst d).get=mQ s.env.get e.dst d:=IB _ _ _;rw[<-hp];exact ye
 | @I5 e r s f xQ args fn d ob R0 R1 R hg iG ha hf hp h h0 hr t k vY O=>
  obtain⟨rs,I,s8,i1,i2,i4,i3⟩:=O;have E:s.H.length<=(s.H ++ [ob]).length:=by simp
  refine⟨_,I,k _ _ s8,Nat.le_trans E i1,i2,i4,λK k0 hK=>?_⟩;obtain⟨z,e1,e2,e3,ye⟩:=i3 K (k0+1) hK;have RV:Safe s.H (.new ob):=trivial;obtain⟨a1,a2⟩:=PG (δ:=.new ob) RV K (by have:(s.H ++ [ob]).length<=K:=Nat.le_trans i1 hK;simpa[Dl.app,Al.last]using this);refine⟨⟨k0,e,s.H.length,⟨gT s.env.get s.H e.op,[(s.H.length,none)]⟩⟩::z,by simp[e1],by simp[e2],by simp[e3,cG],?_⟩;obtain⟨func,code,h1,V,t1,t2,t3,_⟩:=(hT.fn f fn hf).ex
  have hE:Ef (CC P G) s.env.get (s.H++room (K-s.H.length)) e s.H.length ⟨gT s.env.get s.H e.op,[(s.H.length,none)]⟩ (kE s.H.length d) (.new ob):=by have e0:args.map (gq (λ_=>none) (s.H++room (K-s.H.length)) 40)=args.map (gq (λ_=>none) s.H 40):=aw λd _=>(IH 40 d).2;have:=Ef.callN (C:=CC P G) (f:=s.env.get) (H:=s.H++room (K-s.H.length)) (e:=e) (n:=s.H.length) hg iG ha (by rw[e0];exact⟨t3,vY.one h0⟩) hr a2;rwa [Nk]at this
  refine .cons hE ?_;have Pz:lG s.H.length (.new ob) (s.H++room (K-s.H.length))=(s.H ++ [ob])++room (K-(s.H ++ [ob]).length):=a1;show Tx (CC P G) (mQ s.env.get e.dst (kE s.H.length d)) (lG s.H.length (.new ob) (s.H++room (K-s.H.length))) z _ _;rw[Pz];have hp:(put s.env e.dst (kE s.H.length d)).get=mQ s.env.get e.dst (kE s.H.length d):=IB _ _ _;rw[<-hp];exact ye
 | @I6 e r s f xQ args fn d v R0 R1 R hg iG ha hf hp hS hv gX gI h h0 hr t k vY O=>
  obtain⟨rs,I,s8,i1,i2,i4,i3⟩:=O;have E:s.H.length<=(s.H.set v .dead).length:=by simp
  refine⟨_,I,k _ _ s8,Nat.le_trans E i1,i2,i4,λK k0 hK=>?_⟩;obtain⟨z,e1,e2,e3,ye⟩:=i3 K (k0+1) hK
  have iH:v<s.H.length:=by
   unfold rowsOf at gX;split at gX
   .grind
   .cases gX
  have RV:Safe s.H (.obj v .dead):=iH;obtain⟨a1,a2⟩:=PG (δ:=.obj v .dead) RV K (by have:(s.H.set v .dead).length<=K:=Nat.le_trans i1 hK;simpa[Dl.app]using this);refine⟨⟨k0,e,0,⟨gT s.env.get s.H e.op,[(v,none)]⟩⟩::z,by simp[e1],by simp[e2],by simp[e3,cG],?_⟩;obtain⟨func,code,h1,V,t1,t2,t3,_⟩:=(hT.fn f fn hf).ex
  have hE:Ef (CC P G) s.env.get (s.H++room (K-s.H.length)) e 0 ⟨gT s.env.get s.H e.op,[(v,none)]⟩ d (.obj v .dead):=by have e0:args.map (gq (λ_=>none) (s.H++room (K-s.H.length)) 40)=args.map (gq (λ_=>none) s.H 40):=aw λd _=>(IH 40 d).2;have e4:args.map (iC (s.H++room (K-s.H.length)) 40)=args.map (iC s.H 40):=aw λd _=>(IH 40 d).1;have:=Ef.A2 (C:=CC P G) (f:=s.env.get) (H:=s.H++room (K-s.H.length)) (e:=e) (n:=0) (v:=v) hg iG ha (by rw[e4];exact hS) (by rw[e4];exact hv) (by rw[Tu];exact gX) (by rw[e0];exact⟨t3,vY.one h0⟩) (by rw[e0];exact gI) hr;rwa [Nk]at this
  refine .cons hE ?_;have Pz:lG 0 (.obj v .dead) (s.H++room (K-s.H.length))=(s.H.set v .dead)++room (K-(s.H.set v .dead).length):=a1;show Tx (CC P G) (mQ s.env.get e.dst d) (lG 0 (.obj v .dead) (s.H++room (K-s.H.length))) z _ _;rw[Pz];have hp:(put s.env e.dst d).get=mQ s.env.get e.dst d:=IB _ _ _;rw[<-hp];exact ye
 | @l6 jG l s R1 R t hp O=>
  obtain⟨rs,I,s8,i1,i2,i4,i3⟩:=O;obtain⟨hp,s6⟩:=hp rs I s8;intro N code D J n Q c w a L gf B
  cases D with
  | @l6 _ _ id A ord yh he ho pY=>
   obtain⟨z,e1,e2,e3,Bz⟩:=i3 I.H.length 0 (Nat.le_refl _);have Z:z.length=l.length:=by rw[<-e1];simp
   have gI:∀(ops:List Oper) (l:List ic),pM P G N A ops=some l->ops.length=l.length/\∀(i:Nat) (o:Oper) (e:ic),ops[i]? = some o->l[i]? = some e->wQ P G N A o=some e:=by
    intro ops
    induction ops with
    | nil=>intro l h;cases h;exact⟨rfl,λi o e h=>by simp at h⟩
    | cons o r Sl=>
     intro l h;obtain⟨e,l',rfl,h1,V⟩:=Gg h;obtain⟨q1,q2⟩:=Sl l' V;refine⟨by simp[q1],λi o' e' ho he=>?_⟩
     cases i with
     | zero=>simp at ho he;subst ho;subst he;exact h1
     | succ i=>exact q2 i o' e' (by simpa using ho) (by simpa using he)
   obtain⟨q1,q2⟩:=gI _ _ yh;have hA:A.size=l.length:=by rw[<-q1];simp
   have jz:∀(i:Nat) (it:mJ),z[i]? = some it->it.k=i/\l[i]? = some it.e/\rs[i]? = some it.rc:=by
    intro i it hi;have gG:=(ae.1 hi).1;refine⟨?_,by rw[<-e1];simp[hi],by rw[<-e2];simp[hi]⟩;have:(z.map (·.k))[i]? = some it.k:=by simp[hi]
    rw[e3,List.getElem?_range' (by omega)]at this;simpa using this.symm
   refine wpIn_region_any hM ?_;have pA:gE G c s.H { w with drawn:=w.drawn+1 }:=gf.gf.pQ (kj.drew w);have HE:Step s.H.length c s.H w c s.H { w with drawn:=w.drawn+1 }:=CR _ (kj.drew w)
   have RZ:SX G N c { w with drawn:=w.drawn+1 } s.env.get (s.H++room (I.H.length-s.H.length)) s.marks a:=
    ⟨aaD pA _,kT.carry (λ_ _ h=>h.qb gf.gf.toHeapOK HE) gf.env,gf.size,gf.marks⟩
   refine UN (C:=CC P G) (λg args d Hn h=>h) he ho A.size z _ c _ _ _ a (by omega) ?_ RZ Bz ?_ ?_ λc' w' W U X=>?_
   .refine⟨by simp,λj hj=>?_,?_,λit kc=>?_,λi hi hl=>?_⟩
    .refine⟨λ_=>⟨z[j]'(by omega),bT _,(jz j _ (List.getElem?_eq_getElem _)).1⟩,λ_=>by simp[hj]⟩
    .rw[bJ];intro i j hi hj BR;rw[(jz i _ (List.getElem?_eq_getElem hi)).1,(jz j _ (List.getElem?_eq_getElem hj)).1];exact BR
    .obtain⟨i,hi⟩:=aC.1 kc;have gG:=(ae.1 hi).1;rw[(jz i it hi).1];omega
    .simp_all
   .intro it kc;obtain⟨i,hi⟩:=aC.1 kc;have gG:=(ae.1 hi).1;obtain⟨k1,k2,k3⟩:=jz i it hi;refine⟨A[i]'(by omega),by rw[k1];simp,q2 i _ _ (by simp) k2⟩
   .intro p yu q hq Ad;obtain⟨i,hi⟩:=aC.1 yu;obtain⟨j,hj⟩:=aC.1 hq;obtain⟨p1,p2,p3⟩:=jz i p hi;obtain⟨Te,Tg,q3⟩:=jz j q hj;rw[p1,Te]at Ad ⊢;have gG:=(ae.1 hj).1;have:=List.all_eq_true.1 (List.all_eq_true.1 pY j (bj.2 (by omega))) i (bj.2 Ad);simp only[p2,Tg,bQ,Bool.and_eq_true,dw]at this;rcases this with h|⟨h1,V⟩
    .exact .inl h
    .refine .inr ⟨h1,?_⟩;rcases V with V|V
     .have:=List.all_eq_true.1 hp (i,j) V;simp only[p3,q3]at this;exact this
     .obtain⟨_,_,_,_,E1⟩:=Bz.each p yu;obtain⟨_,_,_,_,E2⟩:=Bz.each q hq;exact aa3 E1 E2 V
   .simp only[bS,room,eM,az]at U X;refine B _ c' w' W s6 i4 i1 ⟨U.gf,U.env,U.size,by show sq c' I.marks _;rw[i2];exact U.marks⟩ ?_;have h1:=HE.trans (aaE (c:=c) (w:={ w with drawn:=w.drawn+1 }) (H:=s.H) (I.H.length-s.H.length) s.H.length) (Nat.le_refl _);exact h1.trans X (by simp)
 | @mR jG l es s R1 R t hp k O yB=>
  obtain⟨rs,I,s8,i1,i2,i4,i3⟩:=O;have hp:=hp rs I s8;have yB:=yB rs I s8;intro N code D J n Q c w a L gf B
  cases D with
  | @mR _ _ _ id A ord yh he ho pY z6=>
   obtain⟨z,e1,e2,e3,Bz⟩:=i3 I.H.length 0 (Nat.le_refl _);have Z:z.length=l.length:=by rw[<-e1];simp
   obtain⟨o1,o2,QR,c1,c2⟩:=Vw yh;obtain⟨q1,q2⟩:=Vx c1;obtain⟨q3,_⟩:=Vx c2;have hA:A.size=l.length+es.length:=by rw[<-db,QR,ak,q1,q3]
   have rh:∀i,i<l.length->A[i]? = o1[i]? := λi hi=>by rw[<-bF,QR,ah (by omega)]
   have s7:∀i,A[l.length+i]? = o2[i]? := λi=>by rw[<-bF,QR,ai (by omega)];congr 1;omega
   have jz:∀(i:Nat) (it:mJ),z[i]? = some it->it.k=i/\l[i]? = some it.e/\rs[i]? = some it.rc/\i<l.length:=by
    intro i it hi;have gG:=(ae.1 hi).1;refine⟨?_,by rw[<-e1];simp[hi],by rw[<-e2];simp[hi],by omega⟩;have:(z.map (·.k))[i]? = some it.k:=by simp[hi]
    rw[e3,List.getElem?_range' (by omega)]at this;simpa using this.symm
   refine wpIn_region_any hM ?_;have pA:gE G c s.H { w with drawn:=w.drawn+1 }:=gf.gf.pQ (kj.drew w);have HE:Step s.H.length c s.H w c s.H { w with drawn:=w.drawn+1 }:=CR _ (kj.drew w)
   have RZ:SX G N c { w with drawn:=w.drawn+1 } s.env.get (s.H++room (I.H.length-s.H.length)) s.marks a:=
    ⟨aaD pA _,kT.carry (λ_ _ h=>h.qb gf.gf.toHeapOK HE) gf.env,gf.size,gf.marks⟩
   have NQ:∀q∈(es.zipIdx l.length).map (λp=>(⟨p.2,p.1,0,⟨[],[]⟩⟩:mJ)),l.length<=q.k/\q.k<l.length+es.length:=λq hq=>by grind
   have nS:∀k,l.length<=k->k<l.length+es.length->∃p∈(es.zipIdx l.length).map (λp=>(⟨p.2,p.1,0,⟨[],[]⟩⟩:mJ)),p.k=k:=λk h1 V=>
    ⟨⟨k,es[k-l.length]'(by omega),0,⟨[],[]⟩⟩,ar.2 ⟨(es[k-l.length]'(by omega),k),by rw[dD];exact⟨h1,by simp⟩,rfl⟩,rfl⟩
   have Ha:((es.zipIdx l.length).map (λp=>(⟨p.2,p.1,0,⟨[],[]⟩⟩:mJ))).length=es.length:=by simp
   rw[show A.size=z.length+((es.zipIdx l.length).map (λp=>(⟨p.2,p.1,0,⟨[],[]⟩⟩:mJ))).length by rw[Ha];omega];refine UO (C:=CC P G) (λg args d Hn h=>h) he ho (lasts:=(es.zipIdx l.length).map λp=>⟨p.2,p.1,0,⟨[],[]⟩⟩) (ops:=o2) (λq hq k B=>(z6 q.k (NQ q hq).1 (by simp;exact(NQ q hq).2) k B).imp (λh=>h) λh=>⟨nS k h.1 (by have:=(NQ q hq).2;omega),h.2⟩) ?_ z.length z _ c _ _ _ a rfl ?_ RZ Bz ?_ ?_ λc' w' W U X=>?_
   .refine bI λi=>?_;simp only[cz,au,List.getElem?_zipIdx]
    cases h:es[i]? with
    | none=>
     have:es.length<=i:=by simpa using h
     simp[bk (l:=o2) (i:=i) (by omega)]
    | some e=>
     have:=(ae.1 h).1;simp[s7,List.getElem?_eq_getElem (l:=o2) (i:=i) (by omega)]
   .refine⟨by simp;omega,λj hj=>?_,?_,λit kc=>?_,λi hi hl=>?_⟩
    .refine⟨λ_=>?_,λ_=>by rw[Ha];simp[show j<z.length+es.length by omega]⟩
     by_cases nD:j<l.length
     .exact⟨z[j]'(by omega),bA _ (bT _),(jz j _ (List.getElem?_eq_getElem _)).1⟩
     .refine⟨⟨j,es[j-l.length]'(by omega),0,⟨[],[]⟩⟩,bG _ (ar.2 ⟨(es[j-l.length]'(by omega),j),?_,rfl⟩),rfl⟩;rw[dD];exact⟨by omega,by simp⟩
    .refine bR.2 ⟨?_,?_,λp yu q hq=>?_⟩
     .rw[bJ];intro i j hi hj BR;rw[(jz i _ (List.getElem?_eq_getElem hi)).1,(jz j _ (List.getElem?_eq_getElem hj)).1];exact BR
     .rw[bJ];intro i j hi hj BR;simp;omega
     .obtain⟨i,hi⟩:=aC.1 yu;have h1:=jz i p hi;have V:=NQ q hq;omega
    .rcases List.mem_append.1 kc with kc|kc
     .obtain⟨i,hi⟩:=aC.1 kc;have:=jz i it hi;omega
     .grind
    .simp_all
   .intro it kc;obtain⟨i,hi⟩:=aC.1 kc;obtain⟨k1,k2,k3,k4⟩:=jz i it hi;have h1:o1[i]? = some (o1[i]'(by omega)):=List.getElem?_eq_getElem _;exact⟨o1[i]'(by omega),by rw[k1,rh i k4,h1],q2 i _ _ h1 k2⟩
   .intro p yu q hq Ad;obtain⟨i,hi⟩:=aC.1 yu;obtain⟨j,hj⟩:=aC.1 hq;obtain⟨p1,p2,p3,p4⟩:=jz i p hi;obtain⟨Te,Tg,q3,q4⟩:=jz j q hj;rw[p1,Te]at Ad ⊢;have:=List.all_eq_true.1 (List.all_eq_true.1 pY j (bj.2 (by simp;omega))) i (bj.2 Ad);simp only[ah p4,ah q4,p2,Tg,bQ,Bool.and_eq_true,dw]at this;rcases this with h|⟨h1,V⟩
    .exact .inl h
    .refine .inr ⟨h1,?_⟩;rcases V with V|V
     .have:=List.all_eq_true.1 hp (i,j) V;simp only[p3,q3]at this;exact this
     .obtain⟨_,_,_,_,E1⟩:=Bz.each p yu;obtain⟨_,_,_,_,E2⟩:=Bz.each q hq;exact aa3 E1 E2 V
   .simp only[bS,room,eM,az]at U X;have h1:=HE.trans (aaE (c:=c) (w:={ w with drawn:=w.drawn+1 }) (H:=s.H) (I.H.length-s.H.length) s.H.length) (Nat.le_refl _);have V:=h1.trans X (by simp);exact yB N A o2 c2 J n Q c' w' W (by rw[i4];exact L) ⟨U.gf,U.env,U.size,by show sq c' I.marks _;rw[i2];exact U.marks⟩ (by rw[i4];exact B.mono V i1)
 | @loop live a s R h O=>
  intro N code D J n Q c w a L gf B
  cases D with
  | loop h1=>exact aoM (O (Nat.le_refl _) N _ h1 J n Q c w a L ⟨gf.gf,Dy gf.env live,gf.size,gf.marks⟩ B)
 | @Aq n0 live a s R1 R h k hs tY vX=>
  intro hn N code D J n Q c w a L gf B;refine ahm (tY N _ D J n _ c w a L gf λo c' w' W Y pz E sE X=>?_)
  cases o with
  | norm I=>
   have XV:n0<=I.H.length:=Nat.le_trans hn E
   have u':n0<=(cut n0 live I).H.length:=by
    unfold cut;split
    .exact XV
    .dsimp only;rw[O6];simp[ji]
   have uV:(cut n0 live I).iD=s.iD:=by have NW:I.iD=s.iD:=pz;unfold cut;split<;>exact NW
   obtain⟨c2,ng,tf,_⟩:=zz sE XV live;refine vX I Y u' N _ D J n Q c2 w' W (λh=>L (by rw[<-uV];exact h)) ng ?_;rw[uV];exact B.mono ((X.weaken hn).trans tf (Nat.le_refl _)) (Nat.le_refl _)
  | exit id I=>exact B _ c' w' W (hs _ Y rfl) pz (Nat.le_trans hn E) sE (X.weaken hn)
  | ret I=>exact B _ c' w' W (hs _ Y rfl) pz (Nat.le_trans hn E) sE (X.weaken hn)
 | @oB rf live x s f first cap fn R1 R pz hx hf hp h k O=>
  intro N code D J n Q c w a L gf B;have s9:=L pz;subst s9
  cases D with
  | oB Aj vz=>
   obtain⟨func,code,h1,V,t1,t2,t3,_⟩:=(hT.fn f fn hf).ex;exact aoP gf Aj hx t3 vz (live:=live) (R1:=E' R1) (R:=outs R) O k B
 | @exit id s R h=>
  intro N code D J n Q c w a L gf B;cases D;exact wpIn_exit (B _ c w a h rfl (Nat.le_refl _) gf (Step.refl _ _ _ _))
 | @ret s R h=>
  intro N code D J n Q c w a L gf B;cases D;exact wpIn_ret (B _ c w a h rfl (Nat.le_refl _) gf (Step.refl _ _ _ _))
 | @call f args H fn R1 R own hf hl h k O=>
  intro c w vs gf il;obtain⟨func,code,hs,U,t1,t2,t3,t7,t4,t5,t6⟩:=(hT.fn f fn hf).ex;have uV:=am6 hT.rt t1 t2 t7;rw[t5]at uV;refine callsIn_wide (n:=0) |>.1 (callsIn_of_wp_marks (F:=FW none) t1 t2 trivial (O fn.ntmps code (PL uV t4) none 0 _ c w _ (λ_=>rfl) ⟨gf,ads il _,?_,.nil⟩ ?_))
  .simp;omega
  .intro o c' w' W Y pz E lU X;obtain⟨d,H',kQ,r8⟩:=k o Y
   have g9:∀s:St,o.st=s->∀H1,kill s.marks s.H=some H1->∀d0,AL.results fn { s with H:=H1 }=some d0->leave own H.length H1 d0=(d,H') ->
     LeavesInM (FW none) 0 P func W.tmps (λe w'=>∃v c' d H',e = .returned v/\E' R d H'/\H.length<=H'.length/\gE G c' H' w'/\gh c' w' v d/\Step H.length c H w c' H' w') W.defers .returning w':=by
    rintro s rfl H1 afU d0 Eh afW;refine ag7 lU.marks lU.gf afU λw1 q1 q2 q3=>?_;have NY:lq G fn.ntmps c' w1 { o.st with H:=H1,marks:=[] } { W with defers:=[] }:=⟨q1,λj=>(lU.env j).qb lU.gf.toHeapOK q2,lU.size,.nil⟩;obtain⟨v,hv,HK⟩:=anj NY t6 (d:=d0) (by rw[<-Eh];exact ani { o.st with H:=H1 } []);have t':H.length<=H1.length:=by rw[q3];exact E
    obtain⟨c2,k1,k2,k3,k4⟩:=wh q1 t' own HK;rw[afW]at k1 k2 k3 k4;exact⟨v,hv,v,c2,d,H',rfl,r8,k4,k1,k2,(X.trans q2 E).trans k3 (Nat.le_refl _)⟩
   have rU:∀s:St,finish fn own H.length (.norm s)=some (d,H')->∃H1,kill s.marks s.H=some H1/\∃d0,AL.results fn { s with H:=H1 }=some d0/\leave own H.length H1 d0=(d,H'):=by
    intro s hf;simp only[finish]at hf;split at hf
    .grind
    .cases hf
   cases o with
   | norm s=>
    obtain⟨H1,q1,d0,q2,q3⟩:=rU s kQ;exact g9 s rfl H1 q1 d0 q2 q3
   | ret s=>
    obtain⟨H1,q1,d0,q2,q3⟩:=rU s kQ;exact g9 s rfl H1 q1 d0 q2 q3
   | exit id s=>cases kQ
end
end Go.AL
namespace Go.AL
open Go
def M7:Value->Value->Bool
 | .int k a,.int k' b=>decide (k=k')&&decide (a=b)
 | .bool a,.bool b=>a == b
 | .string a,.string b=>decide (a.data.toList=b.data.toList)
 | .nilFunc,.nilFunc=>true
 | .tuple a,.tuple b=>a.toList.isEmpty&&b.toList.isEmpty
 | _,_=>false
mutual
def ph:D->D->Bool
 | .any,.any=>true
 | .val a,.val b=>M7 a b
 | .agg a,.agg b=>tE a b
 | .tup a,.tup b=>tE a b
 | .sl n a,.sl m b=>decide (n=m)&&Dz a b
 | .gg,.gg=>true
 | .fY a b c d e,.fY a' b' c' d' e'=>decide (a=a')&&decide (b=b')&&decide (c=c')&&decide (d=d')&&decide (e=e')
 | .ptr a b c,.ptr a' b' c'=>decide (a=a')&&decide (b=b')&&decide (c=c')
 | .gu a,.gu b=>tE a b
 | .gD a,.gD b=>decide (a=b)
 | .iT a,.iT b=>decide (a=b)
 | .fn (.func f) a b,.fn (.func f') a' b'=>decide (f=f')&&tE a a'&&tE b b'
 | _,_=>false
def tE:List D->List D->Bool
 | [],[]=>true
 | a::l,b::m=>ph a b&&tE l m
 | _,_=>false
def Dz:List (List D)->List (List D)->Bool
 | [],[]=>true
 | a::l,b::m=>tE a b&&Dz l m
 | _,_=>false
end
def Bb:Env->Env->Bool
 | [],[]=>true
 | (i,a)::l,(j,b)::m=>decide (i=j)&&ph a b&&Bb l m
 | _,_=>false
def DA:List (Value×D)->List (Value×D)->Bool
 | [],[]=>true
 | (i,a)::l,(j,b)::m=>M7 i j&&ph a b&&DA l m
 | _,_=>false
def Qc:Ob->Ob->Bool
 | .row t g a,.row t' g' b=>decide (t=t')&&decide (g=g')&&tE a b
 | .map k a,.map k' b=>decide (k=k')&&DA a b
 | .ib r e s,.ib r' e' s'=>decide (r=r')&&Bb e e'&&decide (s=s')
 | .sO a p,.sO b q=>decide (a.data.toList=b.data.toList)&&decide (p=q)
 | .jl m s l,.jl m' s' l'=>ph m m'&&decide (s=s')&&decide (l=l')
 | .ja,.ja=>true
 | .dead,.dead=>true
 | .lT,.lT=>true
 | _,_=>false
def Bc:U->U->Bool
 | [],[]=>true
 | a::l,b::m=>Qc a b&&Bc l m
 | _,_=>false
def Gn(s t:St):Bool:=Bb s.env t.env&&Bc s.H t.H&&decide (s.marks=t.marks)&&(s.iD == t.iD)
def Qd:Out->Out->Bool
 | .norm s,.norm t=>Gn s t
 | .exit i s,.exit j t=>decide (i=j)&&Gn s t
 | .ret s,.ret t=>Gn s t
 | _,_=>false
def Qe(a b:D×U):Bool:=ph a.1 b.1&&Bc a.2 b.2
def once{α:Type}(b:α->α->Bool):List α->List α
 | []=>[]
 | [a]=>[a]
 | a::l=>let m:=once b l;if m.any (b a)then m else a::m
def sV{α b:Type}:List α->(α->Option (List b))->Option (List b)
 | [],_=>some []
 | [a],f=>f a
 | a::l,f=>match f a,sV l f with
  | some x,some y=>some (x++y)
  | _,_=>none
abbrev y4:=FuncId->List D->U->Option (List (D×U))
abbrev CU:=IR->St->Option (List Out)
def refsOf(s:St)(args:List D):List Nat:=dedup (args.map (iC s.H 40)).flatten
def OW(cl:y4)(e:ic)(f:FuncId)(s:St):Option (List St):=
 match kK s.env.get e.op with
 | none=>none
 | some (f',args)=>if f'=f then(match cl f (args.map (gq (λ_=>none) s.H 40)) []with
  | some l=>sV l λp=>match after s e.dst args p.1 p.2 with
   | some a=>some [a]
   | none=>none
  | none=>none)else none
def Tv(T:iB)(cl:y4)(e:ic)(s:St):Option (List St):=
 match kK s.env.get e.op with
 | none=>none
 | some (f,args)=>match T.fn f with
  | none=>none
  | some fn=>
   match fn.full with
   | true=>match cl f args s.H with
    | some l=>some (l.map λp=>{ s with env:=put s.env e.dst p.1,H:=p.2 })
    | none=>none
   | false=>if fn.fz&&s.marks.isEmpty && !gF args then OW cl e f (l8 (refsOf s args) s)else OW cl e f s
def Tz(T:iB)(rd:CU)(e:ic)(s:St)(v:Nat)(args:List D):Option (List St):=
 match s.H[v]? with
 | some (.ib rf env0 .ready)=>match T.round rf with
  | some Rd=>if args.length=Rd.params.length then
    match rd Rd.a { env:=uw Rd.params args env0,H:=s.H,iD:=true }with
    | some b=>match sV b λo=>match o with
      | .norm s1=>match s1.H[v]? with
       | some (.ib rf1 lu .ready)=>if rf1=rf then rd Rd.b { s1 with H:=s1.H.set v (.ib rf lu .busy) }else none
       | _=>none
      | _=>none with
     | some a=>sV a λo=>match o.st.H[v]? with
      | some (.ib rf2 lH .busy)=>if rf2=rf then some [{ s with env:=put s.env e.dst (.b !o.stop),H:=o.st.H.set v (.ib rf lH o.AH) }]else none
      | _=>none
     | none=>none
    | none=>none
   else none
  | none=>none
 | _=>none
def Ty(e:ic)(s:St)(x:X):Option (List St):=
 match ev s.env.get x with
 | .ptr v 0 0=>match s.H[v]? with
  | some (.jl (.gD m) since seen)=>match s.H[m]? with
   | some (.map _ es)=>if es.length=since then
     let left:=(List.range es.length).filter λi => !seen.contains i
     if left.isEmpty then some [{ s with env:=put s.env e.dst (.tup [.b false]) }]else
      some (left.filterMap λi=>match es[i]? with
       | some (k,d)=>some { s with env:=put s.env e.dst (.tup [.b true,sJ k,d]),H:=s.H.set v (.jl (.gD m) since (seen ++ [i])) }
       | none=>none)
    else none
   | _=>none
  | _=>none
 | _=>none
def xw(T:iB)(cl:y4)(rd:CU):List ic->St->Option (List St)
 | [],s=>some [s]
 | e::r,s=>match guardOf s.env.get e.guard with
  | none=>none
  | some false=>xw T cl rd r { s with env:=put s.env e.dst (.val undef) }
  | some true=>match gN s.env.get s.H s.H.length e.op with
   | some (d,δ)=>xw T cl rd r { s with env:=put s.env e.dst d,H:=δ.app s.H (Al.last s.H) }
   | none=>match mz s.env.get s.H s.H.length e.op with
    | some (d,δ)=>xw T cl rd r { s with env:=put s.env e.dst d,H:=δ.app s.H (Al.last s.H) }
    | none=>match e.op with
     | .nextM x=>match Ty e s x with
      | some l=>sV l λa=>xw T cl rd r a
      | none=>none
     | _=>match yieldOf s.env.get e.op with
      | some (v,args)=>match Tz T rd e s v args with
       | some l=>sV l λa=>xw T cl rd r a
       | none=>none
      | none=>match kK s.env.get e.op with
       | none=>none
       | some _=>match Tv T cl e s with
        | some l=>sV l λa=>xw T cl rd r a
        | none=>none
def isN:iL->Bool
 | .callN _ _=>true
 | _=>false
def yR(T:iB)(cl:y4)(st:Bool):List ic->St->Option (List Rc×St)
 | [],s=>some ([],s)
 | e::r,s=>match guardOf s.env.get e.guard with
  | none=>none
  | some false=>match yR T cl st r { s with env:=put s.env e.dst (.val undef) }with
   | some (rs,s')=>some (⟨[],[]⟩::rs,s')
   | none=>none
  | some true=>match gN s.env.get s.H s.H.length e.op with
   | some (d,δ)=>match yR T cl st r { s with env:=put s.env e.dst d,H:=δ.app s.H (Al.last s.H) }with
    | some (rs,s')=>some (⟨gT s.env.get s.H e.op,jV s.H.length δ⟩::rs,s')
    | none=>none
   | none=>match kK s.env.get e.op with
    | none=>none
    | some (f,args)=>match T.fn f with
     | none=>none
     | some fn=>if fn.full||(st&&fn.fz && !gF args && !isN e.op)then none else match cl f (args.map (gq (λ_=>none) s.H 40)) []with
      | some [(d,[])]=>if (if gF args then closed d else flat d)then(match yR T cl st r { s with env:=put s.env e.dst d }with
       | some (rs,s')=>some (⟨gT s.env.get s.H e.op,[]⟩::rs,s')
       | none=>none)else(match e.op with
       | .callN _ _=>match (args.map (iC s.H 40)).flatten with
        | v::l=>if (l.all λu=>decide (u=v))&&(rowsOf s.H v).isSome&&gF (args.map (gq (λ_=>none) s.H 40))&&closed d then(match yR T cl st r { s with env:=put s.env e.dst d,H:=s.H.set v .dead }with
         | some (rs,s')=>some (⟨gT s.env.get s.H e.op,[(v,none)]⟩::rs,s')
         | none=>none)else none
        | []=>none
       | _=>none)
      | some [(d,[ob])]=>match e.op with
       | .callN _ _=>if (if gF args then mO d&&n5 ob else o3 d&&pP ob)then(match yR T cl st r { s with env:=put s.env e.dst (kE s.H.length d),H:=s.H ++ [ob] }with
        | some (rs,s')=>some (⟨gT s.env.get s.H e.op,[(s.H.length,none)]⟩::rs,s')
        | none=>none)else none
       | _=>none
      | _=>none
def sj(T:iB)(cl:y4)(d:Nat->List Nat->IR->St->Option (List Out))(rd:CU):IR->St->Option (List Out)
 | .skip,s=>some [.norm s]
 | .ops l,s=>match xw T cl rd l s with
  | some l=>some (l.map .norm)
  | none=>none
 | .l6 jG l,s=>match yR T cl true l s with
  | some (rs,e)=>if wu jG rs then some [.norm e]else none
  | none=>if s.marks.isEmpty then(match yR T cl false l (l8 (List.range s.H.length) s)with
   | some (rs,e)=>if wu jG rs then some [.norm e]else none
   | none=>none)else none
 | .mR ..,_=>none
 | .seq a b,s=>match sj T cl d rd a s with
  | some l=>sV l λo=>match o with
   | .norm e=>sj T cl d rd b e
   | o=>some [o]
  | none=>none
 | .cond c a b,s=>match ev s.env.get c with
  | .val (.bool true)=>sj T cl d rd a s
  | .val (.bool false)=>sj T cl d rd b s
  | _=>none
 | .block id live a,s=>match sj T cl d rd a s with
  | some l=>some (once Qd (l.map (lP id s.H.length live)))
  | none=>none
 | .loop live a,s=>d s.H.length live a { s with env:=forget live s.env }
 | .oB rf live x,s=>if s.iD then none else match ev s.env.get x with
  | .fn (.func f) first cap=>match T.fn f with
   | some fn=>if fn.full then
     match cl f (first ++ [.iT (s.H.length+1)]++cap) (s.H ++ [.ja,.ib rf (forget live s.env) .ready])with
     | some l=>sV l λp=>match p.2[s.H.length+1]? with
      | some (.ib rf' _ st)=>if rf'=rf then(match AA { s with H:=p.2.set (s.H.length+1) .dead,marks:=s.H.length::s.marks } st with
       | some o=>some [o]
       | none=>none)else none
      | _=>none
     | none=>none
    else none
   | none=>none
  | _=>none
 | .exit id,s=>some [.exit id s]
 | .ret,s=>some [.ret s]
 | .bad,_=>none
 | .fz _ _,_=>none
 | .vt _ _ _,_=>none
abbrev wI:=List (FuncId×List D×List (D×U))
def IF:wI->FuncId->List D->Option (List (D×U))
 | [],_,_=>none
 | (g,xQ,l)::M,f,args=>match Nat.beq g f with
  | true=>match tE xQ args with
   | true=>some l
   | false=>IF M f args
  | false=>IF M f args
def known(M:wI)(f:FuncId)(args:List D):U->Option (List (D×U))
 | []=>IF M f args
 | _=>none
mutual
def Cy(T:iB)(M:wI):Nat->Nat->List Nat->IR->St->Option (List Out)
 | 0,_,_,_,_=>none
 | k+1,n,live,a,s=>match sj T (run T M k) (Cy T M k) (ET T M k) a s with
  | some l=>sV l λo=>match o with
   | .norm b=>Cy T M k n live a (cut n live b)
   | o=>some [o]
  | none=>none
def ET(T:iB)(M:wI):Nat->CU
 | 0,_,_=>none
 | k+1,c,s=>sj T (run T M k) (Cy T M k) (ET T M k) c s
def run(T:iB)(M:wI):Nat->y4
 | 0,_,_,_=>none
 | k+1,f,args,H=>match known M f args H with
  | some l=>some l
  | none=>match T.fn f with
  | none=>none
  | some fn=>if args.length<=fn.ntmps then(match sj T (run T M k) (Cy T M k) (ET T M k) fn.body { env:=uf args,H:=H }with
   | some l=>match sV l λo=>match finish fn fn.own H.length o with
     | some p=>some [p]
     | none=>none with
    | some ps=>some (once Qe ps)
    | none=>none
   | none=>none)else none
end
end Go.AL
namespace Go.AL
open Go
theorem V0{a b:Value}(h:M7 a b=true):a=b:=by
 unfold M7 at h;split at h
 .grind
 .grind
 .rename_i a b;simp only[decide_eq_true_eq]at h
  have:a=b:=by cases a;cases b;congr 1;exact Array.ext' h
  rw[this]
 .rfl
 .grind
 .cases h
mutual
theorem Gm:∀ {a b:D},ph a b=true->a=b
 | .any,b,h=>by cases b<;>simp[ph]at h ⊢
 | .val a,b,h=>by cases b<;>simp[ph]at h ⊢;exact V0 h
 | .agg a,b,h=>by cases b<;>simp[ph]at h ⊢;exact x5 h
 | .tup a,b,h=>by cases b<;>simp[ph]at h ⊢;exact x5 h
 | .sl n a,b,h=>by cases b<;>simp[ph]at h ⊢;exact⟨h.1,VV h.2⟩
 | .gg,b,h=>by cases b<;>simp[ph]at h ⊢
 | .l4 _,b,h=>by cases b<;>simp[ph]at h
 | .fY a1 a2 a3 a4 a5,b,h=>by cases b<;>simp[ph]at h ⊢;simp[h]
 | .ptr a1 a2 a3,b,h=>by cases b<;>simp[ph]at h ⊢;simp[h]
 | .gu a,b,h=>by cases b<;>simp[ph]at h ⊢;exact x5 h
 | .gD a,b,h=>by cases b<;>simp[ph]at h ⊢;exact h
 | .iT a,b,h=>by cases b<;>simp[ph]at h ⊢;exact h
 | .fn f a a',b,h=>by
  cases f<;>cases b<;>first|(simp[ph]at h;done)|skip
  rename_i f g b c;cases g<;>simp[ph]at h ⊢;exact⟨h.1.1,x5 h.1.2,x5 h.2⟩
theorem x5:∀ {a b:List D},tE a b=true->a=b
 | [],[],_=>rfl
 | a::l,b::m,h=>by simp only[tE,Bool.and_eq_true]at h;rw[Gm h.1,x5 h.2]
 | [],_::_,h=>by simp[tE]at h
 | _::_,[],h=>by simp[tE]at h
theorem VV:∀ {a b:List (List D)},Dz a b=true->a=b
 | [],[],_=>rfl
 | a::l,b::m,h=>by simp only[Dz,Bool.and_eq_true]at h;rw[x5 h.1,VV h.2]
 | [],_::_,h=>by simp[Dz]at h
 | _::_,[],h=>by simp[Dz]at h
end
theorem Qa:∀ {a b:Env},Bb a b=true->a=b
 | [],[],_=>rfl
 | (i,a)::l,(j,b)::m,h=>by simp only[Bb,Bool.and_eq_true,decide_eq_true_eq]at h;rw[h.1.1,Gm h.1.2,Qa h.2]
 | [],_::_,h=>by simp[Bb]at h
 | _::_,[],h=>by simp[Bb]at h
theorem VW:∀ {a b:List (Value×D)},DA a b=true->a=b
 | [],[],_=>rfl
 | (i,a)::l,(j,b)::m,h=>by simp only[DA,Bool.and_eq_true]at h;rw[V0 h.1.1,Gm h.1.2,VW h.2]
 | [],_::_,h=>by simp[DA]at h
 | _::_,[],h=>by simp[DA]at h
theorem adt{a b:Ob}(h:Qc a b=true):a=b:=by
 unfold Qc at h;split at h
 .simp only[Bool.and_eq_true,decide_eq_true_eq]at h;rw[h.1.1,h.1.2,x5 h.2]
 .simp only[Bool.and_eq_true,decide_eq_true_eq]at h;rw[h.1,VW h.2]
 .simp only[Bool.and_eq_true,decide_eq_true_eq]at h;rw[h.1.1,Qa h.1.2,h.2]
 .rename_i a p b q;simp only[Bool.and_eq_true,decide_eq_true_eq]at h
  have:a=b:=by cases a;cases b;congr 1;exact Array.ext' h.1
  rw[this,h.2]
 .simp only[Bool.and_eq_true,decide_eq_true_eq]at h;rw[Gm h.1.1,h.1.2,h.2]
 .rfl
 .rfl
 .rfl
 .cases h
theorem Qb:∀ {a b:U},Bc a b=true->a=b
 | [],[],_=>rfl
 | a::l,b::m,h=>by simp only[Bc,Bool.and_eq_true]at h;rw[adt h.1,Qb h.2]
 | [],_::_,h=>by simp[Bc]at h
 | _::_,[],h=>by simp[Bc]at h
theorem Qf{a b:St}(h:Gn a b=true):a=b:=by obtain⟨e,H,m,r⟩:=a;obtain⟨j,H',i,g⟩:=b;simp only[Gn,Bool.and_eq_true,decide_eq_true_eq,beq_iff_eq]at h;obtain⟨⟨⟨h1,f⟩,d⟩,c⟩:=h;rw[Qa h1,Qb f,d,c]
theorem adu{a b:Out}(h:Qd a b=true):a=b:=by
 unfold Qd at h;split at h
 .rw[Qf h]
 .simp only[Bool.and_eq_true,decide_eq_true_eq]at h;rw[h.1,Qf h.2]
 .rw[Qf h]
 .cases h
theorem adv{a b:D×U}(h:Qe a b=true):a=b:=by simp only[Qe,Bool.and_eq_true]at h;exact cL (Gm h.1) (Qb h.2)
theorem OE{α:Type}{d:α->α->Bool}(h:∀a b,d a b=true->a=b):∀ {l:List α} {a:α},a∈l->a∈once d l
 | [a],b,hb=>hb
 | a::b::l,c,hc=>by
  rw[once]
  .split
   .rename_i e;rcases av.1 hc with rfl|hc
    .grind
    .exact OE h hc
   .rcases av.1 hc with rfl|hc
    .grind
    .exact aX _ (OE h hc)
  .grind
theorem xP{α g:Type}{f:α->Option (List g)}:∀ {l:List α} {r:List g},sV l f=some r->∀a∈l,∃y,f a=some y/\∀b∈y,b∈r
 | [],r,_,a,ha=>by simp at ha
 | [a],r,h,b,hb=>by simp only[List.mem_singleton]at hb;subst hb;exact⟨r,h,λ_ h=>h⟩
 | a::b::l,r,h,c,hc=>by
  rw[sV]at h
  .split at h
   .rename_i x y m j;cases h;rcases av.1 hc with rfl|hc
    .grind
    .obtain⟨z,i,e⟩:=xP j c hc;exact⟨z,i,λd k=>bG _ (e d k)⟩
   .cases h
  .grind
section
variable{T:iB}{cl:y4}{rd:CU}
def wH(l:List Out):pJ->Prop:=λr=>∃o∈l,r = .out o
def FF(l:List St):pJ->Prop:=λr=>∃s∈l,r = .out (.norm s)
def lg(l:List (D×U)):pJ->Prop:=λr=>∃p∈l,r = .val p.1 p.2
def sk(T:iB)(cl:y4):Prop:=∀f args H l,cl f args H=some l->Ev T (.call f args H) (lg l)
def Mm(T:iB)(rd:CU):Prop:=∀c s l,rd c s=some l->Ev T (.code c s) (wH l)
theorem wH.out{l:List Out}{o:Out}(h:wH l (.out o)):o∈l:=by obtain⟨o',h1,a⟩:=h;cases a;exact h1
theorem lg.val{l:List (D×U)}{d:D}{H:U}(h:lg l (.val d H)):(d,H)∈l:=by obtain⟨o',h1,a⟩:=h;cases a;exact h1
theorem FF.sub{a b:List St}(h:∀s∈a,s∈b){r:pJ}(c:FF a r):FF b r:=by obtain⟨s,h1,d⟩:=c;exact⟨s,h s h1,d⟩
theorem wH.sub{a b:List Out}(h:∀s∈a,s∈b){r:pJ}(c:wH a r):wH b r:=by obtain⟨s,h1,d⟩:=c;exact⟨s,h s h1,d⟩
theorem aff{S:List Nat}{s:St}{g:Option (Nat×Bool)}{b:Bool}(h:guardOf s.env.get g=some b):guardOf (l8 S s).env.get g=some b:=by
 cases g with
 | none=>exact h
 | some p=>
  simp only[guardOf,l8]at h ⊢
  have e:Env.get (s.env.map λp=>(p.1,gq (iI (mC s.H S)) s.H 40 p.2)) p.1=gq (iI (mC s.H S)) s.H 40 (s.env.get p.1):=by
   generalize s.env=env
   induction env with
   | nil=>rfl
   | cons q r c=>
    obtain⟨j,d⟩:=q;simp only[List.map_cons,Env.wW];split
    .rfl
    .exact c
  rw[e];split at h
  .rename_i x a;rw[a];have:gq (iI (mC s.H S)) s.H 40 (.val (.bool x)) = .val (.bool x):=by unfold gq;rfl
   rw[this];exact h
  .rename_i vs a;rw[a];have:gq (iI (mC s.H S)) s.H 40 (.val (.tuple vs)) = .val (.tuple vs):=by unfold gq;rfl
   rw[this];exact h
  .cases h
theorem aaJ(q:sk T cl){e:ic}{r:List ic}{f:FuncId}{fn:jw}{s:St}{l:List St}{R:pJ->Prop}(hg:guardOf s.env.get e.guard=some true)(o:T.fn f=some fn)(n:fn.full=false)
  (h:OW cl e f s=some l) (k:∀b∈l,Ev T (.ops r b) R):Ev T (.ops (e::r) s) R:=by
 unfold OW at h;split at h
 .cases h
 .rename_i f' args p;split at h
  .rename_i t;subst t;split at h
   .rename_i u j;have g:=xP h;refine .F6 hg p o n (q _ _ _ _ j) (λd Hn c=>?_) λd Hn b c m=>?_
    .obtain⟨y,a,_⟩:=g _ c.val;dsimp only at a;split at a
     .grind
     .cases a
    .obtain⟨y,a,i⟩:=g _ c.val;dsimp only at a;rw[m]at a;cases a;exact k b (i b (by simp))
   .cases h
  .cases h
theorem anG(c:sk T cl){e:ic}{r:List ic}{s:St}{l:List St}{R:pJ->Prop}(hg:guardOf s.env.get e.guard=some true)
  (h:Tv T cl e s=some l) (k:∀i∈l,Ev T (.ops r i) R):Ev T (.ops (e::r) s) R:=by
 unfold Tv at h;split at h
 .cases h
 .rename_i f args n;split at h
  .cases h
  .rename_i fn b;split at h
   .rename_i a;split at h
    .rename_i o j;cases h;refine .F5 hg n b a (c _ _ _ _ j) λd H' m=>k _ ?_;exact ar.2 ⟨(d,H'),m.val,rfl⟩
    .cases h
   .rename_i a;split at h
    .rename_i g;simp only[Bool.and_eq_true,eo]at g;refine .l8 (refsOf s args) ?_ (aaJ c (aff hg) b a h k);rw[g.1.2];rfl
    .exact aaJ c hg b a h k
theorem anI(g:Mm T rd){e:ic}{r:List ic}{s:St}{v:Nat}{args:List D}{l:List St}{R:pJ->Prop}(hg:guardOf s.env.get e.guard=some true)(A:yieldOf s.env.get e.op=some (v,args))
  (h:Tz T rd e s v args=some l) (k:∀p∈l,Ev T (.ops r p) R):Ev T (.ops (e::r) s) R:=by
 unfold Tz at h;split at h
 .rename_i rf env0 x;split at h
  .rename_i Rd B;split at h
   .rename_i hl;split at h
    .rename_i E n;split at h
     .rename_i w f;have m:=xP f;have j:=xP h;refine .My hg A x B hl (g _ _ _ n) (Rb:=wH w) (λo b=>?_) (λs1 i u c=>?_) (λo b=>?_) λo F b t=>?_
      .obtain⟨y,a,_⟩:=m o b.out;split at a
       .rename_i s1;split at a
        .rename_i q i c;split at a
         .rename_i C;subst C;exact⟨rfl,i,c⟩
         .cases a
        .cases a
       .cases a
      .obtain⟨y,a,d⟩:=m _ u.out;simp only[c,if_true]at a;exact(g _ _ _ a).mono λr z=>z.sub d
      .obtain⟨y,a,_⟩:=j o b.out;split at a
       .grind
       .cases a
      .obtain⟨y,a,d⟩:=j o b.out;simp only[t,if_true]at a;cases a;exact k _ (d _ (by simp))
     .cases h
    .cases h
   .cases h
  .cases h
 .cases h
theorem anH{e:ic}{r:List ic}{s:St}{x:X}{l:List St}{R:pJ->Prop}(hg:guardOf s.env.get e.guard=some true)(b:e.op = .nextM x)
  (h:Ty e s x=some l) (k:∀a∈l,Ev T (.ops r a) R):Ev T (.ops (e::r) s) R:=by
 unfold Ty at h;split at h
 .rename_i v c;split at h
  .rename_i m since seen f;split at h
   .rename_i kk es g;split at h
    .rename_i hs;dsimp only at h;refine .next hg b c f g hs (λh0=>?_) λi kv d hi n=>?_
     .rw[if_pos]at h
      .grind
      .simp_all
     .have j:=(ae.1 hi).1;rw[if_neg]at h
      .grind
      .rw[eo,List.filter_eq_nil_iff];intro h0;have:=h0 i (by simpa using j);simp at this;exact n this
    .cases h
   .cases h
  .cases h
 .cases h
theorem IM(c:sk T cl)(b:Mm T rd):∀(l:List ic) (s:St) (r:List St),xw T cl rd l s=some r->Ev T (.ops l s) (FF r)
 | [],s,r,h=>by cases h;exact .nil ⟨s,by simp,rfl⟩
 | e::r,s,res,h=>by
  have g:∀ {l:List St},(sV l λa=>xw T cl rd r a)=some res->∀a∈l,Ev T (.ops r a) (FF res):=λhl a k=>by obtain⟨y,n,j⟩:=xP hl a k;exact(IM c b r a y n).mono λ_ o=>o.sub j
  simp only[xw]at h;split at h
  .cases h
  .rename_i hg;exact .off hg (IM c b r _ _ h)
  .rename_i hg;split at h
   .rename_i d δ f;exact .op hg f (IM c b r _ _ h)
   .split at h
    .rename_i d δ f;exact .CJ hg f (IM c b r _ _ h)
    .split at h
     .rename_i x m;split at h
      .rename_i l hl;exact anH hg m hl (g h)
      .cases h
     .split at h
      .rename_i v args i;split at h
       .rename_i l hl;exact anI b hg i hl (g h)
       .cases h
      .split at h
       .cases h
       .rename_i i;split at h
        .rename_i l hl;exact anG c hg hl (g h)
        .cases h
theorem Cz(a:sk T cl)(st:Bool):∀(l:List ic) (s:St) (rs:List Rc) (j:St),yR T cl st l s=some (rs,j)->Ev T (.trace l s) (λr=>r = .tr rs j)
 | [],s,rs,j,h=>by cases h;exact .I7 rfl
 | e::r,s,rs,j,h=>by
  simp only[yR]at h;split at h
  .cases h
  .rename_i hg;split at h
   .rename_i h1;cases h;exact .I8 hg (Cz a st r _ _ _ h1) λ_ _ h=>by cases h;rfl
   .cases h
  .rename_i hg;split at h
   .rename_i d δ x;split at h
    .rename_i h1;cases h;exact .I9 hg x (Cz a st r _ _ _ h1) λ_ _ h=>by cases h;rfl
    .cases h
   .split at h
    .cases h
    .rename_i f args q;split at h
     .cases h
     .rename_i fn p;split at h
      .cases h
      .rename_i A;have o:fn.full=false:=by grind
       split at h
       .rename_i d k
        by_cases b:(if gF args=true then closed d else flat d)=true
        .rw[if_pos b]at h;split at h
         .rename_i h1;cases h;refine .I4 hg q p o (a _ _ _ _ k) (λd' Hn i=>?_) b (Cz a st r _ _ _ h1) λ_ _ h=>by cases h;rfl
          have:=i.val;simp only[List.mem_singleton,dC]at this;exact this
         .cases h
        .rw[if_neg b]at h;split at h
         .rename_i g m c;split at h
          .rename_i v l w;split at h
           .rename_i t;simp only[Bool.and_eq_true,List.all_eq_true,decide_eq_true_eq]at t;obtain⟨⟨⟨C,c2⟩,z⟩,y⟩:=t;split at h
            .rename_i h1;cases h;have n:some (g,m.map (ev s.env.get))=some (f,args):=by rw[<-q,c];rfl
             cases n;refine .I6 (v:=v) hg c rfl p o (λu B=>?_) (by rw[w];simp) c2 z (a _ _ _ _ k) (λd' Hn i=>?_) y (Cz a st r _ _ _ h1) λ_ _ h=>by cases h;rfl
             .grind
             .have:=i.val;simp only[List.mem_singleton,dC]at this;exact this
            .cases h
           .cases h
          .cases h
         .cases h
       .rename_i d ob k;split at h
        .rename_i g m c
         by_cases b:(if gF args=true then mO d&&n5 ob else o3 d&&pP ob)=true
         .rw[if_pos b]at h;split at h
          .rename_i h1;cases h;have n:some (g,m.map (ev s.env.get))=some (f,args):=by rw[<-q,c];rfl
           cases n;refine .I5 hg c rfl p o (a _ _ _ _ k) (λd' Hn i=>?_) b (Cz a st r _ _ _ h1) λ_ _ h=>by cases h;rfl
           have:=i.val;simp only[List.mem_singleton,dC]at this;exact this
          .cases h
         .grind
        .cases h
       .cases h
theorem Tw(q:sk T cl)(E:Mm T rd){C:Nat->List Nat->IR->St->Option (List Out)}(A:∀n live a s l,C n live a s=some l->Ev T (.loop n live a s) (wH l)) :
  ∀(c:IR) (s:St) (l:List Out),sj T cl C rd c s=some l->Ev T (.code c s) (wH l):=by
 intro c
 induction c with
 | skip=>intro s l h;cases h;exact .skip ⟨_,by simp,rfl⟩
 | ops ops=>
  intro s l h;simp only[sj]at h;split at h
  .rename_i u h1;cases h;refine .Gf ((IM q E _ _ _ h1).mono λr w=>?_);obtain⟨j,v,rfl⟩:=w;exact⟨_,ar.2 ⟨j,v,rfl⟩,rfl⟩
  .cases h
 | mR I ops es=>intro s l h;simp[sj]at h
 | l6 I ops=>
  intro s l h;simp only[sj]at h;split at h
  .rename_i rs j h1;split at h
   .rename_i z;cases h;exact .l6 (Cz q _ _ _ _ _ h1) λ_ _ h=>by cases h;exact⟨z,_,by simp,rfl⟩
   .cases h
  .split at h
   .rename_i i;split at h
    .rename_i rs j h1;split at h
     .rename_i z;cases h;refine .Gz (List.range s.H.length) ?_ (.l6 (Cz q _ _ _ _ _ h1) λ_ _ h=>by cases h;exact⟨z,_,by simp,rfl⟩);rw[eo]at i;rw[i];rfl
     .cases h
    .cases h
   .cases h
 | seq a b k t=>
  intro s l h;simp only[sj]at h;split at h
  .rename_i u h1;have i:=xP h;refine .seq (k _ _ h1) (λj v=>?_) λo p M=>?_
   .obtain⟨y,g,m⟩:=i _ v.out;exact(t _ _ g).mono λ_ w=>w.sub m
   .obtain⟨y,g,m⟩:=i _ p.out
    cases o with
    | norm=>cases M
    | exit id j=>cases g;exact⟨_,m _ (by simp),rfl⟩
    | ret j=>cases g;exact⟨_,m _ (by simp),rfl⟩
  .cases h
 | cond c a b k t=>
  intro s o h;simp only[sj]at h;split at h
  .rename_i B;exact .cond (x:=true) B (k _ _ h)
  .rename_i B;exact .cond (x:=false) B (t _ _ h)
  .cases h
 | block id live a k=>
  intro s l h;simp only[sj]at h;split at h
  .rename_i u h1;cases h;refine .block (k _ _ h1) λo p=>⟨_,OE (λ_ _=>adu) (ar.2 ⟨o,p.out,rfl⟩),rfl⟩
  .cases h
 | loop live a k=>intro s o h;exact .loop (A _ _ _ _ _ h)
 | oB rf live x=>
  intro s l h;simp only[sj]at h;split at h
  .cases h
  .rename_i G;split at h
   .rename_i f first cap hx
    split at h
    .rename_i fn K;split at h
     .rename_i D;split at h
      .rename_i u J;have i:=xP h;refine .oB (by simpa using G) hx K D (q _ _ _ _ J) λd H' L=>?_;obtain⟨y,g,m⟩:=i _ L.val;dsimp only at g;split at g
       .rename_i F env st H;split at g
        .rename_i e;subst e;split at g
         .rename_i o p;cases g;exact⟨env,st,o,H,p,_,m _ (by simp),rfl⟩
         .cases g
        .cases g
       .cases g
      .cases h
     .cases h
    .cases h
   .cases h
 | exit id=>intro s o h;cases h;exact .exit ⟨_,by simp,rfl⟩
 | ret=>intro s o h;cases h;exact .ret ⟨_,by simp,rfl⟩
 | bad=>intro s o h;cases h
 | fz _ _=>intro s o h;cases h
 | vt _ _ _=>intro s o h;cases h
end
section
variable{T:iB}
def lF(T:iB)(M:wI):Prop:=∀p∈M,Ev T (.call p.1 p.2.1 []) (lg p.2.2)
theorem lF.nil(T:iB):lF T []:=λp a=>by cases a
theorem lF.cons{T:iB}{f:FuncId}{args:List D}{l:List (D×U)}{M:wI}(h:Ev T (.call f args []) (lg l))(t:lF T M):lF T ((f,args,l)::M):=λp a=>by
 rcases av.1 a with rfl|a
 .exact h
 .exact t p a
theorem am8{M:wI}(hM:lF T M){f:FuncId}{args:List D}{l:List (D×U)}(h:IF M f args=some l):Ev T (.call f args []) (lg l):=by
 induction M with
 | nil=>cases h
 | cons p M i=>
  obtain⟨g,a,e⟩:=p;have d:lF T M:=λq b=>hM q (by simp[b]);simp only[IF]at h;split at h
  .rename_i hg;split at h
   .rename_i c;cases h;have:=hM (g,a,l) (by simp);rw[x5 c,cj hg]at this;exact this
   .grind
  .grind
theorem aaM{M:wI}(hM:lF T M):∀k:Nat,(∀n live a s l,Cy T M k n live a s=some l->Ev T (.loop n live a s) (wH l))/\Mm T (ET T M k)/\sk T (run T M k)
 | 0=>⟨λ_ _ _ _ _ h=>by simp[Cy]at h,λ_ _ _ h=>by simp[ET]at h,λ_ _ _ _ h=>by simp[run]at h⟩
 | k+1=>by
  obtain⟨e,j,i⟩:=aaM hM k;refine⟨λn live a s l h=>?_,λc s l h=>?_,λf args H l h=>?_⟩
  .simp only[Cy]at h;split at h
   .rename_i r h1;have g:=xP h;refine .Aq (Tw i j e _ _ _ h1) (λq u=>?_) λo m A=>?_
    .obtain⟨y,b,d⟩:=g _ u.out;exact(e _ _ _ _ _ b).mono λ_ v=>v.sub d
    .obtain⟨y,b,d⟩:=g _ m.out
     cases o with
     | norm=>cases A
     | exit id q=>cases b;exact⟨_,d _ (by simp),rfl⟩
     | ret q=>cases b;exact⟨_,d _ (by simp),rfl⟩
   .cases h
  .simp only[ET]at h;exact Tw i j e _ _ _ h
  .simp only[run]at h;split at h
   .rename_i r t;cases h
    cases H with
    | nil=>exact am8 hM t
    | cons=>cases t
   split at h
   .cases h
   .rename_i fn x;split at h
    .rename_i hl;split at h
     .rename_i r h1;split at h
      .rename_i ps z;cases h;have g:=xP z;refine .call fn.own x hl (Tw i j e _ _ _ h1) λo m=>?_;obtain⟨y,b,d⟩:=g _ m.out;split at b
       .rename_i p w;cases b;exact⟨p.1,p.2,w,p,OE (λ_ _=>adv) (d _ (by simp)),rfl⟩
       .cases b
      .cases h
     .cases h
    .cases h
theorem qq{M:wI}(hM:lF T M){k:Nat}{f:FuncId}{args:List D}{H:U}{l:List (D×U)}(h:run T M k f args H=some l):Ev T (.call f args H) (lg l):=(aaM hM k).2.2 f args H l h
end
end Go.AL
namespace Go.AL
open Go
@[reducible] def o(k:Nat)(op:iL):ic:={ dst:=some k,op:=op,guard:=none }
@[reducible] def u(op:iL):ic:={ dst:=none,op:=op,guard:=none }
@[reducible] def og(j:Nat)(b:Bool)(k:Nat)(op:iL):ic:={ dst:=some k,op:=op,guard:=some (j,b) }
@[reducible] def ug(j:Nat)(b:Bool)(op:iL):ic:={ dst:=none,op:=op,guard:=some (j,b) }
def Zw(n:Nat):List D:=List.replicate n (.val (.int .u32 0))
def Zb(n:Nat):List D:=List.replicate n (.val (.int .u8 0))
def DJ:List D:=([1779033703,3144134277,1013904242,2773480762,1359893119,2600822924,528734635,1541459225]:List Int).map λn=>.val (.int .u32 n)
def DS:List D:=([1116352408,1899447441,3049323471,3921009573,961987163,1508970993,2453635748,2870763221,3624381080,310598401,607225278,1426881987,1925078388,2162078206,2614888103,3248222580,3835390401,4022224774,264347078,604807628,770255983,1249150122,1555081692,1996064986,2554220882,2821834349,2952996808,3210313671,3336571891,3584528711,113926993,338241895,666307205,773529912,1294757372,1396182291,1695183700,1986661051,2177026350,2456956037,2730485921,2820302411,3259730800,3345764771,3516065817,3600352804,4094571909,275423344,430227734,506948616,659060556,883997877,958139571,1322822218,1537002063,1747873779,1955562222,2024104815,2227730452,2361852424,2428436474,2756734187,3204031479,3329325298]:List Int).map λn=>.val (.int .u32 n)
def nth:List (Option jw)->Nat->Option jw
 | [],_=>none
 | a::_,0=>a
 | _::l,n+1=>nth l n
def assoc:List (Nat×qy)->Nat->Option qy
 | [],_=>none
 | (k,R)::l,n=>if k=n then some R else assoc l n
def elem(f:Nat):List Nat->Bool
 | []=>false
 | a::l=>if a=f then true else elem f l
def FY(fn:Func):Code:=fn.body.getD .skip
def Cv(P:Program)(rf:Nat):Array Tmp:=match AI P rf with
 | some (_,ps,_,_)=>ps
 | none=>#[]
def Cs(P:Program)(rf:Nat):Code:=match AI P rf with
 | some (_,_,a,_)=>a
 | none=>.skip
def Ct(P:Program)(rf:Nat):Code:=match AI P rf with
 | some (_,_,_,b)=>b
 | none=>.skip
section
variable{P:Program}{G:GT}
theorem ae9{f:FuncId}{fn:jw}{func:Func}{code:Code}{hs a:List (List Nat)}(h1:P.funcs[f]? = some func)(h:func.body=some code)(g:s5 P f=true)(e:(nY code).length<=64)
  (d:cC P G fn.ntmps (64*f) hs code=some (fn.body,a)) (c:func.ntmps=fn.ntmps) (b:A0 P func.results.toList=some fn.results):FD P G f fn:=⟨⟨func,code,hs,a,h1,h,g,e,d,c,b⟩⟩
theorem Cu{rf:Nat}{R:qy}{N:Nat}{ps:Array Tmp}{ac bc:Code}(d c:List (List Nat))(h1:G.rt rf=some (N,ps,ac,bc))(h:ps.toList=R.params)(g:(R.params.all λp=>decide (p<N))=true)
  (b:nY ac = []/\nY bc = []) (f:cC P G N 0 d ac=some (R.a,[])) (e:cC P G N 0 c bc=some (R.b,[])):vf P G rf R:=
 ⟨⟨N,ps,ac,bc,h1,h,g,PL (λi x a=>by rw[b.1]at a;cases a) f,PL (λi x a=>by rw[b.2]at a;cases a) e⟩⟩
inductive xI(P:Program)(G:GT):Nat->List (Option jw)->Prop
 | nil (k:Nat):xI P G k []
 | has {k:Nat} {fn:jw} {l:List (Option jw)} (h:FD P G k fn) (t:xI P G (k+1) l):xI P G k (some fn::l)
 | no {k:Nat} {l:List (Option jw)} (t:xI P G (k+1) l):xI P G k (none::l)
inductive AX(P:Program)(G:GT):List (Nat×qy)->Prop
 | nil:AX P G []
 | cons {k:Nat} {R:qy} {l:List (Nat×qy)} (h:vf P G k R) (t:AX P G l):AX P G ((k,R)::l)
theorem xI.get:∀ {l:List (Option jw)} {k:Nat},xI P G k l->∀(i:Nat) (fn:jw),nth l i=some fn->FD P G (k+i) fn:=by
 intro l k h
 induction h with
 | nil=>intro i fn hi;cases hi
 | has h t a=>
  intro i fn hi
  cases i with
  | zero=>cases hi;exact h
  | succ i=>
   have:=a i fn hi;rwa [a8,dt 1 i]at this
 | no t a=>
  intro i fn hi
  cases i with
  | zero=>cases hi
  | succ i=>
   have:=a i fn hi;rwa [a8,dt 1 i]at this
theorem AX.get{l:List (Nat×qy)}(h:AX P G l):∀(i:Nat) (R:qy),assoc l i=some R->vf P G i R:=by
 induction h with
 | nil=>intro i R hi;cases hi
 | @cons k b l h t a=>
  intro i R hi;simp only[assoc]at hi;split at hi
  .rename_i e;subst e;cases hi;exact h
  .exact a i R hi
theorem aoy{l:List (Option jw)}{r:List (Nat×qy)}{a:FuncId->Option Nat}(d:G.rt=AI P)(h:xI P G 0 l)(j:AX P G r){b:FuncId->Bool}(i:∀f sz,a f=some sz->xO P f sz)(g:∀f,b f=true->AY P f){c:FuncId->Bool}(e:∀f,c f=true->AR P f):Py P G { fn:=nth l,round:=assoc r,sort:=a,tt:=b,sZ:=c } where
 sort:=i
 tt:=g
 sZ:=e
 rt:=d
 fn f fn hf:=by have:=h.get f fn hf;rwa [aQ]at this
 round:=j.get
