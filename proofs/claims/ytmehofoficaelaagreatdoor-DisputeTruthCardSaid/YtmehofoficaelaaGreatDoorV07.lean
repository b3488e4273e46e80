/- Part 7 of DisputeTruth. -/
import Derived.Test.YtmehofoficaelaaGreatDoorV06
import Derived.KernelRfl
set_option linter.all false
namespace Go.AL
open Go
def CC(P:Program)(G:GT)(g:FuncId)(args:List D)(d:D)(Hn:U):Prop:=sF P g=true/\yC P G g args [] d Hn
def outs(R:pe->Prop):Out->Prop:=λo=>R (.out o)
def EE(R:pe->Prop):D->U->Prop:=λd H=>R (.val d H)
def Good(P:Program)(G:GT):Ap->(pe->Prop)->Prop
 | .ops l s,R=>∀(N:Nat) (A:Array Oper) (ops:List Oper),ph P G N A ops=some l ->
   ∀(e:Option Nat) (n:Nat) (Q:Exit->Act->World->Prop) (c:Ctx) (w:World) (a:Act),(s.iq=false->e=none)->kX G N c w s a->xh G N s.H.length s.iq c s.H w (outs R) Q->wpListIn (FW e) n P A Q ops a w
 | .code ir s,R=>∀(N:Nat) (code:Code),nL P G N ir code ->
   ∀(e:Option Nat) (n:Nat) (Q:Exit->Act->World->Prop) (c:Ctx) (w:World) (a:Act),(s.iq=false->e=none)->kX G N c w s a->xh G N s.H.length s.iq c s.H w (outs R) Q->code.wpIn (FW e) n P Q a w
 | .loop n0 _ ir s,R=>n0<=s.H.length->∀(N:Nat) (code:Code),nL P G N ir code ->
   ∀(e:Option Nat) (n:Nat) (Q:Exit->Act->World->Prop) (c:Ctx) (w:World) (a:Act),(s.iq=false->e=none)->kX G N c w s a->xh G N n0 s.iq c s.H w (outs R) Q->Ly (FW e) n P code Q a w
 | .call f args H,R=>uP P G f args H (EE R)
 | .trace l s,R=>∃rs d,R (.tr rs d)/\s.H.length<=d.H.length/\d.marks=s.marks/\d.iq=s.iq/\∀(K k0:Nat),d.H.length<=K->∃b:List mX,b.map (·.e)=l/\b.map (·.rc)=rs/\b.map (·.k)=List.range' k0 l.length /\
   Tx (CC P G) s.env.get (s.H++room (K-s.H.length)) b d.env.get (d.H++room (K-d.H.length))
section
variable{P:Program}{G:GT}{T:il}
theorem xh.mono{N n m:Nat}{iq:Bool}{c b:Ctx}{H H1:U}{w w1:World}{R:Out->Prop}{Q:Exit->Act->World->Prop}(h:xh G N n iq c H w R Q)(hs:Step n c H w b H1 w1)(a:n<=m):xh G N m iq b H1 w1 R Q:=
 λo c' w' g e d hl fV f=>h o c' w' g e d (Nat.le_trans a hl) fV (hs.trans f a)
theorem FL{N:Nat}{A:Array Oper}{o:Oper}{r:List Oper}{l:List gR}(h:ph P G N A (o::r)=some l) :
  ∃e a,l=e::a/\wv P G N A o=some e/\ph P G N A r=some a:=by
 simp only[ph]at h;split at h
 .grind
 .cases h
theorem acG{N:Nat}{A:Array Oper}{ops:List Oper}(h:ph P G N A ops=some []):ops = []:=by
 cases ops with
 | nil=>rfl
 | cons o r=>
  obtain⟨e,a,h1,_⟩:=FL h;cases h1
theorem Vd{N:Nat}{A:Array Oper}:∀ {l es:List gR} {ops:List Oper},ph P G N A ops=some (l++es)->∃b a,ops=b++a/\ph P G N A b=some l/\ph P G N A a=some es
 | [],es,ops,h=>⟨[],ops,rfl,rfl,h⟩
 | e::l,es,ops,h=>by
  cases ops with
  | nil=>cases h
  | cons o r=>
   obtain⟨j,i,h1,g,f⟩:=FL h;cases h1;obtain⟨b,a,rfl,d,c⟩:=Vd f;exact⟨o::b,a,rfl,by simp only[ph,g,d],c⟩
theorem Ve{N:Nat}{A:Array Oper}:∀ {ops:List Oper} {l:List gR},ph P G N A ops=some l->ops.length=l.length/\∀(i:Nat) (o:Oper) (e:gR),ops[i]? = some o->l[i]? = some e->wv P G N A o=some e:=by
 intro ops
 induction ops with
 | nil=>intro l h;cases h;exact⟨rfl,λi o e h=>by simp at h⟩
 | cons o r f=>
  intro l h;obtain⟨e,g,rfl,h1,c⟩:=FL h;obtain⟨q1,q2⟩:=f c;refine⟨by simp[q1],λi o' d a b=>?_⟩
  cases i with
  | zero=>simp at a b;subst a;subst b;exact h1
  | succ i=>exact q2 i o' d (by simpa using a) (by simpa using b)
theorem AD{N:Nat}{A:Array Oper}{ops:List Oper}{e:gR}{l:List gR}(h:ph P G N A ops=some (e::l)) :
  ∃o r,ops=o::r/\wv P G N A o=some e/\ph P G N A r=some l:=by
 cases ops with
 | nil=>cases h
 | cons o r=>
  obtain⟨d,c,h1,b,a⟩:=FL h;cases h1;exact⟨o,r,rfl,b,a⟩
theorem aa7{N:Nat}{c:Ctx}{w:World}{s:St}{a:Act}{b:Option Nat}{n:Nat}{o:Oper}{g:iD}{f:FuncId}{args:List D}{next:Act->World->Prop}{Q:Exit->Act->World->Prop}(hs:kX G N c w s a)(i:nz P G o=some g)
  (x:s9 N o.dst=true) (q:kA s.env.get g=some (f,args)) (m:sF P f=true) {R:D->U->Prop}
  (p:∀vs:List Value,ju c w vs args->Calls P f vs.toArray w λe w'=>∃v c' d H',e = .returned v/\R d H'/\gv G c' H' w'/\fR c' w' v d/\Step s.H.length c s.H w c' H' w')
  (k:∀d H' c' w' l,R d H'->kX G N c' w' { s with env:=put s.env o.dst d,H:=H' } l->Step s.H.length c s.H w c' H' w'->next l w'):o.wpIn (FW b) n P a w next Q:=by
 obtain⟨vs,t,r⟩:=Oj hs.fV hs.env i q m;refine⟨λ_ _=>trivial,?_⟩;rw[Oper.semAt_plain (FW b) a.eval o (BS i),t];refine⟨λh=>by simp[Fence.wide]at h,FA.2 ((p vs r).mono ?_)⟩;rintro e w' ⟨v,c',d,H',rfl,y,fV,u,j⟩;exact k d H' c' w' _ y (hs.next fV j x u) j
theorem abr{s s1:St}{dst:Option Nat}{args:List D}{r:D}{Hn:U}(h:after s dst args r Hn=some s1) :
  (if gw args then mL r&&Hn.all nY else oH r&&Hn.all pn)=true/\s1 = { s with env:=put s.env dst (ku s.H.length r),H:=s.H++Hn }:=by
 unfold after at h;generalize (if gw args=true then mL r&&Hn.all nY else oH r&&Hn.all pn)=b at h;cases b
 .cases h
 .grind
theorem ZP{P:Program}{G:GT}{o:Oper}{b:iD}(a:nz P G o=some b):Oz b=false:=by
 unfold nz at a;split at a
 all_goals try simp only[aA,ag,aD]at a
 all_goals (repeat' first|(obtain⟨_,_,a⟩:=a)|split at a|simp only[ag]at a)
 all_goals first|rfl|(cases a;done)|(cases a;rfl)|(split<;>rfl)
theorem amd{P:Program}{G:GT}{o:Oper}{x:X}(a:nz P G o=some (.nextM x)):False:=by have:=ZP a;cases this
theorem ame{P:Program}{G:GT}{o:Oper}{a:iD}(b:nz P G o=some a){f:gL}{H:U}{n:Nat}{r:D×Dl}(h:ml f H n a=some r):False:=by have:=ZP b;cases a<;>first|(cases h;done)|(cases this;done)
theorem amD{fn:je}(s:St)(ms:List Nat):AL.results fn { s with marks:=ms }=AL.results fn s:=by
 have h1:∀x,Ej { s with marks:=ms } x=Ej s x:=λx=>by cases x<;>rfl
 have b:∀l,uJ { s with marks:=ms } l=uJ s l:=by
  intro l
  induction l with
  | nil=>rfl
  | cons x r a=>simp only[uJ,h1,a]
 simp only[AL.results,b]
theorem aeQ(hM:P.follows .mixedOrders=true)(hT:OY P G T){j:Ap}{R:pe->Prop}(h:Ev T j R):Good P G j R:=by
 induction h with
 | @mono j R R' h hi O=>
  cases j with
  | ops l s=>exactλN A ops D J n Q c w a L hs B=>O N A ops D J n Q c w a L hs λo c' w' V Y=>B o c' w' V (hi _ Y)
  | code ir s=>exactλN code D J n Q c w a L hs B=>O N code D J n Q c w a L hs λo c' w' V Y=>B o c' w' V (hi _ Y)
  | loop n0 live ir s=>exactλhn N code D J n Q c w a L hs B=>O hn N code D J n Q c w a L hs λo c' w' V Y=>B o c' w' V (hi _ Y)
  | call f args H=>exactλc w vs h1 W=>(O c w vs h1 W).mono λ_ _ ⟨v,c',d,H',he,Y,r⟩=>⟨v,c',d,H',he,hi _ Y,r⟩
  | trace l s=>
   obtain⟨rs,I,h1,W⟩:=O;exact⟨rs,I,hi _ h1,W⟩
 | @sort f g fn sz v gen t H R α fc l cf hs hg hl gG h0 wG D2 tr nt D hv k vD=>
  obtain⟨func,code,h1,W,t1,t2,t3,_⟩:=(hT.fn g fn hg).ex;exact anE (hT.sort f sz hs) t3 fc l hl gG h0 wG cf D2 tr nt (λx hx y hy c w vs h1 W=>(vD x hx y hy c w vs h1 W).mono λ_ _ ⟨v,c',d,H',he,Y,r⟩=>⟨v,c',d,H',he,by obtain⟨_,e⟩:=Y;cases e;rfl,r⟩) hv k
 | @Ew f sz x H R hs k=>exact anD (hT.sort f sz hs) (f:=f) (g:=0) k
 | @sV f v gen t H R l hs h0 wG hv k=>exact anG (hT.sV f hs) l h0 wG hv k
 | @sD f v gen t zs H R l i hs hi hv k=>exact acT (hT.sD f hs) l i hi hv k
 | @nil s R h=>
  intro N A ops D J n Q c w a L hs B;rw[acG D];exact B _ c w a h rfl (Nat.le_refl _) hs (Step.refl _ _ _ _)
 | @op e r s d δ R hg h t O=>
  have E:s.H.length<=(δ.app s.H (Al.last s.H)).length:=O7 δ s.H;intro N A ops D J n Q c w a L hs B;obtain⟨o,r',rfl,ho,nG⟩:=AD D;obtain⟨s1,s2,s3,s4⟩:=y4 ho;have hw:=uN hs.env s4 hg;simp only[wpListIn,hw,if_true];have s1:=U9 s1 h;refine an8 hs s1 s3 (mW.last s.H) h λc' w' V U X=>?_;rw[<-s2]at U;exact O N A r' nG J n Q c' w' V L U (B.mono X E)
 | @Cc e r s d δ R hg h t O=>
  have E:s.H.length<=(δ.app s.H (Al.last s.H)).length:=O7 δ s.H;intro N A ops D J n Q c w a L hs B;obtain⟨o,r',rfl,ho,nG⟩:=AD D;obtain⟨s1,s2,s3,s4⟩:=y4 ho;have hw:=uN hs.env s4 hg;simp only[wpListIn,hw,if_true];have s1:=s1.resolve_left λW=>ame W h;refine aoa hs s1 s3 (mW.last s.H) h λc' w' V U X=>?_;rw[<-s2]at U;exact O N A r' nG J n Q c' w' V L U (B.mono X E)
 | @off e r s R hg t O=>
  intro N A ops D J n Q c w a L hs B;obtain⟨o,r',rfl,ho,nG⟩:=AD D;obtain⟨s1,s2,s3,s4⟩:=y4 ho;have hw:=uN hs.env s4 hg;simp only[wpListIn,hw,bz,if_false];refine⟨λ_ _=>trivial,?_⟩;have U:=hs.next hs.fV (Step.refl _ _ _ _) s3 (v:=undef) (d:=.val undef) (.val _)
  rw[<-s2]at U;rw[<-s2];exact O N A r' nG J n Q c w _ L (by rw[s2]at U ⊢;exact U) B
 | @lW l s R S hm t O=>
  have Z:(lW S s).H.length=s.H.length:=P4;intro N A ops D J n Q c w a L hs B;obtain⟨c',U,X,_⟩:=Wu hs S;refine O N A ops D J n Q c' w a L U ?_;rw[Z];exact B.mono X (Nat.le_refl _)
 | @F4 code s R S hm t O=>
  have Z:(lW S s).H.length=s.H.length:=P4;intro N code D J n Q c w a L hs B;obtain⟨c',U,X,_⟩:=Wu hs S;refine O N code D J n Q c' w a L U ?_;rw[Z];exact B.mono X (Nat.le_refl _)
 | @P2 l s R live t O=>
  intro N A ops D J n Q c w a L hs B;exact O N A ops D J n Q c w a L ⟨hs.fV,C3 hs.env live,hs.size,hs.marks⟩ B
 | @F3 code s R live t O=>
  intro N code D J n Q c w a L hs B;exact O N code D J n Q c w a L ⟨hs.fV,C3 hs.env live,hs.size,hs.marks⟩ B
 | @Fz e r s f args fn R1 R hg D hf hp h ha t vD O=>
  intro N A ops px J n Q c w a L hs B;obtain⟨o,r',rfl,ho,nG⟩:=AD px;obtain⟨s1,s2,s3,s4⟩:=y4 ho;have hw:=uN hs.env s4 hg;simp only[wpListIn,hw,if_true];obtain⟨func,code,h1,W,t1,t2,t3,_⟩:=(hT.fn f fn hf).ex
  have jk:∀d Hn,EE R1 d Hn->(if gw args then mL d&&Hn.all nY else oH d&&Hn.all pn)=true/\after s e.dst args d Hn=some { s with env:=put s.env e.dst (ku s.H.length d),H:=s.H++Hn }:=λd Hn Y=>by obtain⟨I,U⟩:=c8.1 (ha d Hn Y);obtain⟨k1,rfl⟩:=abr U;exact⟨k1,U⟩
  have s1:=FG s1 D;refine aa7 hs s1 s3 D t3 (R:=λd H'=>∃d0 Hn,EE R1 d0 Hn/\d=ku s.H.length d0/\H'=s.H++Hn) (λvs iu=>(aml hs.fV iu vD λd Hn Y=>(jk d Hn Y).1).mono ?_) ?_
  .grind
  .rintro d H' c' w' V ⟨d0,Hn,Y,rfl,rfl⟩ U X;rw[<-s2]at U;exact O d0 Hn _ Y (jk d0 Hn Y).2 N A r' nG J n Q c' w' V L U (B.mono X (by simp))
 | @Fy e r s f args fn R1 R hg D hf hp h t vD O=>
  intro N A ops px J n Q c w a L hs B;obtain⟨o,r',rfl,ho,nG⟩:=AD px;obtain⟨s1,s2,s3,s4⟩:=y4 ho;have hw:=uN hs.env s4 hg;simp only[wpListIn,hw,if_true];obtain⟨func,code,h1,W,t1,t2,t3,_⟩:=(hT.fn f fn hf).ex;have s1:=FG s1 D;refine aa7 hs s1 s3 D t3 (R:=λd H'=>EE R1 d H'/\s.H.length<=H'.length) (λvs iu=>(vD c w vs hs.fV iu).mono ?_) ?_
  .grind
  .rintro d H' c' w' V ⟨Y,E⟩ U X;rw[<-s2]at U;exact O d H' Y N A r' nG J n Q c' w' V L U (B.mono X E)
 | @LR e r s v args rf env0 Rd Ra Rb R hg D hv Y hl ha hn hb hm t pW wV vE=>
  intro N A ops px J n Q c w a L hs B;obtain⟨o,r',rfl,ho,nG⟩:=AD px;obtain⟨s1,s2,s3,s4⟩:=y4 ho;have hw:=uN hs.env s4 hg;simp only[wpListIn,hw,if_true];obtain⟨M,ps,ac,bc,u9,Ng,gE,QK,r4⟩:=(hT.round rf Rd Y).ex;rw[<-Ng]at hl pW gE
  have s1:=s1.resolve_right λW=>by
   have:=Pr W;unfold yieldOf at D;split at D
   .rename_i r3;rw[r3]at this;cases this
   .cases D
  refine aob hs s1 s3 D hv u9 (by simpa using hl) (λp hp=>by simpa using List.all_eq_true.1 gE p hp) (Ra:=outs Ra) (Rb:=outs Rb) ?_ hn ?_ hm ?_
  .exact λJ n Q c w a U jI=>pW M ac QK J n Q c w a (λh=>by cases h) U jI
  .intro s1 kY zi o6 od J n Q c w a U jI;have:=wV s1 kY zi od M bc r4 J n Q c w a (λh=>by simp[o6]at h) U;simp only[ar,o6]at this;exact this jI
  .intro q ly c' w' V zj o8 E U X;rw[<-s2]at U;exact vE q ly zj o8 N A r' nG J n Q c' w' V L U (B.mono X (by simpa using E))
 | @next e r s x v m since seen kk es R hg iy hx hv hm nq h0 h1 r2 tD=>
  intro N A ops px J n Q c w a L hs B;obtain⟨o,r',rfl,ho,nG⟩:=AD px;obtain⟨s1,s2,s3,s4⟩:=y4 ho;have hw:=uN hs.env s4 hg;simp only[wpListIn,hw,if_true];rw[iy]at s1;have s1:=s1.resolve_left λW=>amd W;refine an7 hs s1 s3 hx hv hm nq ?_ ?_
  .intro jc c' w' V U X;rw[<-s2]at U;exact r2 jc N A r' nG J n Q c' w' V L U (B.mono X (Nat.le_refl _))
  .intro i k d hi DG c' w' V U X;rw[<-s2]at U;exact tD i k d hi DG N A r' nG J n Q c' w' V L U (B.mono X (by simp))
 | @skip s R h=>
  intro N code D J n Q c w a L fV B;cases D;exact wpIn_skip (B _ c w a h rfl (Nat.le_refl _) fV (Step.refl _ _ _ _))
 | @FK l s R h O=>
  intro N code D J n Q c w a L fV B
  cases D with
  | ops h=>exact wpIn_region_list (O N _ _ h J n Q c w a L fV B)
 | @seq a b s R1 R h k hs tD vC=>
  intro N code D J n Q c w a L fV B
  cases D with
  | seq h1 W=>
   refine wpIn_seq (tD N _ h1 J n _ c w a L fV λo c' w' V Y o6 E r7 X=>?_)
   cases o with
   | norm I=>
    have Nk:I.iq=s.iq:=o6;refine vC I Y N _ W J n Q c' w' V (λh=>L (by rw[<-Nk];exact h)) r7 ?_;rw[Nk];exact B.mono X E
   | exit id I=>exact B _ c' w' V (hs _ Y rfl) o6 E r7 X
   | ret I=>exact B _ c' w' V (hs _ Y rfl) o6 E r7 X
 | @cond c a b s x R D h O=>
  intro N code px J n Q c w a L fV B
  cases px with
  | @cond cx ca cb _ _ _ hx h1 W=>
   have hr:=iE fV.fV fV.env hx;rw[D]at hr
   have he:a.eval cx = .bool x:=by generalize a.eval cx=u at hr;cases hr;rfl
   refine wpIn_cond he ?_;cases x
   .exact O N _ W J n Q c w a L fV B
   .exact O N _ h1 J n Q c w a L fV B
 | @block id live a s R1 R h k O=>
  have Z:∀I:St,s.H.length<=I.H.length->s.H.length<=(cut s.H.length live I).H.length:=by
   intro I h1;unfold cut;split
   .exact h1
   .dsimp only;rw[Ou];simp[iV]
  have XV:∀I:St,(cut s.H.length live I).iq=I.iq:=by intro I;unfold cut;split<;>rfl
  intro N code D J n Q c w a L fV B
  cases D with
  | block h1=>
   refine wpIn_block (O N _ h1 J n _ c w a L fV λo c' w' V Y o6 E r7 X=>?_);have nC:=k o Y
   cases o with
   | norm I=>
    obtain⟨c2,nj,sO,_⟩:=AE r7 E live;exact B (.norm (cut s.H.length live I)) c2 w' V nC ((XV I).trans o6) (Z I E) nj (X.trans sO (Nat.le_refl _))
   | exit zN I=>
    by_cases Q0:zN=id
    .subst Q0;obtain⟨c2,nj,sO,_⟩:=AE r7 E live;simp only[lG,if_true]at nC;have:=B (.norm (cut s.H.length live I)) c2 w' V nC ((XV I).trans o6) (Z I E) nj (X.trans sO (Nat.le_refl _));simp only[Out.ex,Exit.inBlock,if_true]at this ⊢;exact this
    .simp only[lG,if_neg Q0]at nC;have:=B _ c' w' V nC o6 E r7 X;simp only[Out.ex,Exit.inBlock,if_neg Q0]at this ⊢;exact this
   | ret I=>exact B _ c' w' V nC o6 E r7 X
 | @Iy s R Y=>
  exact⟨[],s,Y,Nat.le_refl _,rfl,rfl,λK k0 hK=>⟨[],rfl,rfl,rfl,.nil⟩⟩
 | @IA e r s d δ R1 R hg h t k O=>
  obtain⟨rs,I,sI,i1,i2,i4,i3⟩:=O;refine⟨_,I,k _ _ sI,Nat.le_trans (O7 δ s.H) i1,i2,i4,λK k0 hK=>?_⟩;obtain⟨z,e1,e2,e3,xJ⟩:=i3 K (k0+1) hK;obtain⟨a1,a2⟩:=O8 (aby h) K (Nat.le_trans i1 hK);refine⟨⟨k0,e,s.H.length,⟨gK s.env.get s.H e.op,jO s.H.length δ⟩⟩::z,by simp[e1],by simp[e2],by simp[e3,cH],?_⟩
  have hE:Ef (CC P G) s.env.get (s.H++room (K-s.H.length)) e s.H.length ⟨gK s.env.get s.H e.op,jO s.H.length δ⟩ d δ:=by have:=Ef.op (C:=CC P G) (f:=s.env.get) (H:=s.H++room (K-s.H.length)) (e:=e) (n:=s.H.length) hg (by rw[abx];exact h) a2;rwa [MF]at this
  refine .cons hE ?_;rw[a1];have hp:(put s.env e.dst d).get=mD s.env.get e.dst d:=HT _ _ _;rw[<-hp];exact xJ
 | @Iz e r s R1 R hg t k O=>
  obtain⟨rs,I,sI,i1,i2,i4,i3⟩:=O;refine⟨_,I,k _ _ sI,i1,i2,i4,λK k0 hK=>?_⟩;obtain⟨z,e1,e2,e3,xJ⟩:=i3 K (k0+1) hK;refine⟨⟨k0,e,0,⟨[],[]⟩⟩::z,by simp[e1],by simp[e2],by simp[e3,cH],.cons (.off hg) ?_⟩;have hp:(put s.env e.dst (.val undef)).get=mD s.env.get e.dst (.val undef):=HT _ _ _;rw[<-hp];exact xJ
 | @Iv e r s f args fn d R0 R1 R hg D hf hp h h0 hr t k vD O=>
  obtain⟨rs,I,sI,i1,i2,i4,i3⟩:=O;refine⟨_,I,k _ _ sI,i1,i2,i4,λK k0 hK=>?_⟩;obtain⟨z,e1,e2,e3,xJ⟩:=i3 K (k0+1) hK;refine⟨⟨k0,e,0,⟨gK s.env.get s.H e.op,[]⟩⟩::z,by simp[e1],by simp[e2],by simp[e3,cH],?_⟩;obtain⟨func,code,h1,W,t1,t2,t3,_⟩:=(hT.fn f fn hf).ex
  have hE:Ef (CC P G) s.env.get (s.H++room (K-s.H.length)) e 0 ⟨gK s.env.get s.H e.op,[]⟩ d .no:=by have e0:args.map (gd (λ_=>none) (s.H++room (K-s.H.length)) 40)=args.map (gd (λ_=>none) s.H 40):=au λd _=>(HZ 40 d).2;have:=Ef.call (C:=CC P G) (f:=s.env.get) (H:=s.H++room (K-s.H.length)) (e:=e) (n:=0) hg D (by rw[e0];exact⟨t3,vD.one h0⟩) hr;rwa [MF]at this
  refine .cons hE ?_;have hp:(put s.env e.dst d).get=mD s.env.get e.dst d:=HT _ _ _;rw[<-hp];exact xJ
 | @Iw e r s f xp args fn d ob R0 R1 R hg iy ha hf hp h h0 hr t k vD O=>
  obtain⟨rs,I,sI,i1,i2,i4,i3⟩:=O;have E:s.H.length<=(s.H ++ [ob]).length:=by simp
  refine⟨_,I,k _ _ sI,Nat.le_trans E i1,i2,i4,λK k0 hK=>?_⟩;obtain⟨z,e1,e2,e3,xJ⟩:=i3 K (k0+1) hK;have Ru:Safe s.H (.new ob):=trivial;obtain⟨a1,a2⟩:=O8 (δ:=.new ob) Ru K (by have:(s.H ++ [ob]).length<=K:=Nat.le_trans i1 hK;simpa[Dl.app,Al.last]using this);refine⟨⟨k0,e,s.H.length,⟨gK s.env.get s.H e.op,[(s.H.length,none)]⟩⟩::z,by simp[e1],by simp[e2],by simp[e3,cH],?_⟩;obtain⟨func,code,h1,W,t1,t2,t3,_⟩:=(hT.fn f fn hf).ex
  have hE:Ef (CC P G) s.env.get (s.H++room (K-s.H.length)) e s.H.length ⟨gK s.env.get s.H e.op,[(s.H.length,none)]⟩ (ku s.H.length d) (.new ob):=by have e0:args.map (gd (λ_=>none) (s.H++room (K-s.H.length)) 40)=args.map (gd (λ_=>none) s.H 40):=au λd _=>(HZ 40 d).2;have:=Ef.callN (C:=CC P G) (f:=s.env.get) (H:=s.H++room (K-s.H.length)) (e:=e) (n:=s.H.length) hg iy ha (by rw[e0];exact⟨t3,vD.one h0⟩) hr a2;rwa [MF]at this
  refine .cons hE ?_;have OZ:lx s.H.length (.new ob) (s.H++room (K-s.H.length))=(s.H ++ [ob])++room (K-(s.H ++ [ob]).length):=a1;show Tx (CC P G) (mD s.env.get e.dst (ku s.H.length d)) (lx s.H.length (.new ob) (s.H++room (K-s.H.length))) z _ _;rw[OZ];have hp:(put s.env e.dst (ku s.H.length d)).get=mD s.env.get e.dst (ku s.H.length d):=HT _ _ _;rw[<-hp];exact xJ
 | @Ix e r s f xp args fn d v R0 R1 R hg iy ha hf hp hS hv gP gG h h0 hr t k vD O=>
  obtain⟨rs,I,sI,i1,i2,i4,i3⟩:=O;have E:s.H.length<=(s.H.set v .dead).length:=by simp
  refine⟨_,I,k _ _ sI,Nat.le_trans E i1,i2,i4,λK k0 hK=>?_⟩;obtain⟨z,e1,e2,e3,xJ⟩:=i3 K (k0+1) hK
  have iG:v<s.H.length:=by
   unfold rowsOf at gP;split at gP
   .grind
   .cases gP
  have Ru:Safe s.H (.obj v .dead):=iG;obtain⟨a1,a2⟩:=O8 (δ:=.obj v .dead) Ru K (by have:(s.H.set v .dead).length<=K:=Nat.le_trans i1 hK;simpa[Dl.app]using this);refine⟨⟨k0,e,0,⟨gK s.env.get s.H e.op,[(v,none)]⟩⟩::z,by simp[e1],by simp[e2],by simp[e3,cH],?_⟩;obtain⟨func,code,h1,W,t1,t2,t3,_⟩:=(hT.fn f fn hf).ex
  have hE:Ef (CC P G) s.env.get (s.H++room (K-s.H.length)) e 0 ⟨gK s.env.get s.H e.op,[(v,none)]⟩ d (.obj v .dead):=by have e0:args.map (gd (λ_=>none) (s.H++room (K-s.H.length)) 40)=args.map (gd (λ_=>none) s.H 40):=au λd _=>(HZ 40 d).2;have e4:args.map (iv (s.H++room (K-s.H.length)) 40)=args.map (iv s.H 40):=au λd _=>(HZ 40 d).1;have:=Ef.Az (C:=CC P G) (f:=s.env.get) (H:=s.H++room (K-s.H.length)) (e:=e) (n:=0) (v:=v) hg iy ha (by rw[e4];exact hS) (by rw[e4];exact hv) (by rw[S7];exact gP) (by rw[e0];exact⟨t3,vD.one h0⟩) (by rw[e0];exact gG) hr;rwa [MF]at this
  refine .cons hE ?_;have OZ:lx 0 (.obj v .dead) (s.H++room (K-s.H.length))=(s.H.set v .dead)++room (K-(s.H.set v .dead).length):=a1;show Tx (CC P G) (mD s.env.get e.dst d) (lx 0 (.obj v .dead) (s.H++room (K-s.H.length))) z _ _;rw[OZ];have hp:(put s.env e.dst d).get=mD s.env.get e.dst d:=HT _ _ _;rw[<-hp];exact xJ
 | @lU jz l s R1 R t hp O=>
  obtain⟨rs,I,sI,i1,i2,i4,i3⟩:=O;obtain⟨hp,A6⟩:=hp rs I sI;intro N code D J n Q c w a L fV B
  cases D with
  | @lU _ _ id A ord xM he ho pB=>
   obtain⟨z,e1,e2,e3,A8⟩:=i3 I.H.length 0 (Nat.le_refl _);have Z:z.length=l.length:=by rw[<-e1];simp
   have gG:∀(ops:List Oper) (l:List gR),ph P G N A ops=some l->ops.length=l.length/\∀(i:Nat) (o:Oper) (e:gR),ops[i]? = some o->l[i]? = some e->wv P G N A o=some e:=by
    intro ops
    induction ops with
    | nil=>intro l h;cases h;exact⟨rfl,λi o e h=>by simp at h⟩
    | cons o r RW=>
     intro l h;obtain⟨e,l',rfl,h1,W⟩:=FL h;obtain⟨q1,q2⟩:=RW l' W;refine⟨by simp[q1],λi o' e' ho he=>?_⟩
     cases i with
     | zero=>simp at ho he;subst ho;subst he;exact h1
     | succ i=>exact q2 i o' e' (by simpa using ho) (by simpa using he)
   obtain⟨q1,q2⟩:=gG _ _ xM;have hA:A.size=l.length:=by rw[<-q1];simp
   have jo:∀(i:Nat) (it:mX),z[i]? = some it->it.k=i/\l[i]? = some it.e/\rs[i]? = some it.rc:=by
    intro i it hi;have gE:=(ae.1 hi).1;refine⟨?_,by rw[<-e1];simp[hi],by rw[<-e2];simp[hi]⟩;have:(z.map (·.k))[i]? = some it.k:=by simp[hi]
    rw[e3,List.getElem?_range' (by omega)]at this;simpa using this.symm
   refine wpIn_region_any hM ?_;have qg:gv G c s.H { w with drawn:=w.drawn+1 }:=fV.fV.po (jZ.drew w);have GY:Step s.H.length c s.H w c s.H { w with drawn:=w.drawn+1 }:=Cj _ (jZ.drew w)
   have Rz:SX G N c { w with drawn:=w.drawn+1 } s.env.get (s.H++room (I.H.length-s.H.length)) s.marks a:=
    ⟨aan qg _,kK.carry (λ_ _ h=>h.pJ fV.fV.toHeapOK GY) fV.env,fV.size,fV.marks⟩
   refine Uu (C:=CC P G) (λg args d Hn h=>h) he ho A.size z _ c _ _ _ a (by omega) ?_ Rz A8 ?_ ?_ λc' w' V U X=>?_
   .refine⟨by simp,λj hj=>?_,?_,λit kf=>?_,λi hi hl=>?_⟩
    .refine⟨λ_=>⟨z[j]'(by omega),bP _,(jo j _ (List.getElem?_eq_getElem _)).1⟩,λ_=>by simp[hj]⟩
    .rw[bG];intro i j hi hj Bp;rw[(jo i _ (List.getElem?_eq_getElem hi)).1,(jo j _ (List.getElem?_eq_getElem hj)).1];exact Bp
    .obtain⟨i,hi⟩:=aC.1 kf;have gE:=(ae.1 hi).1;rw[(jo i it hi).1];omega
    .simp_all
   .intro it kf;obtain⟨i,hi⟩:=aC.1 kf;have gE:=(ae.1 hi).1;obtain⟨k1,k2,k3⟩:=jo i it hi;refine⟨A[i]'(by omega),by rw[k1];simp,q2 i _ _ (by simp) k2⟩
   .intro p xW q hq zB;obtain⟨i,hi⟩:=aC.1 xW;obtain⟨j,hj⟩:=aC.1 hq;obtain⟨p1,p2,p3⟩:=jo i p hi;obtain⟨SN,SP,q3⟩:=jo j q hj;rw[p1,SN]at zB ⊢;have gE:=(ae.1 hj).1;have:=List.all_eq_true.1 (List.all_eq_true.1 pB j (bj.2 (by omega))) i (bj.2 zB);simp only[p2,SP,bM,Bool.and_eq_true,du]at this;rcases this with h|⟨h1,W⟩
    .exact .inl h
    .refine .inr ⟨h1,?_⟩;rcases W with W|W
     .have:=List.all_eq_true.1 hp (i,j) W;simp only[p3,q3]at this;exact this
     .obtain⟨_,_,_,_,E1⟩:=A8.each p xW;obtain⟨_,_,_,_,E2⟩:=A8.each q hq;exact aaN E1 E2 W
   .simp only[bV,room,eF,az]at U X;refine B _ c' w' V A6 i4 i1 ⟨U.fV,U.env,U.size,by show rO c' I.marks _;rw[i2];exact U.marks⟩ ?_;have h1:=GY.trans (aao (c:=c) (w:={ w with drawn:=w.drawn+1 }) (H:=s.H) (I.H.length-s.H.length) s.H.length) (Nat.le_refl _);exact h1.trans X (by simp)
 | @mF jz l es s R1 R t hp k O x9=>
  obtain⟨rs,I,sI,i1,i2,i4,i3⟩:=O;have hp:=hp rs I sI;have x9:=x9 rs I sI;intro N code D J n Q c w a L fV B
  cases D with
  | @mF _ _ _ id A ord xM he ho pB zu=>
   obtain⟨z,e1,e2,e3,A8⟩:=i3 I.H.length 0 (Nat.le_refl _);have Z:z.length=l.length:=by rw[<-e1];simp
   obtain⟨o1,o2,Qo,c1,c2⟩:=Vd xM;obtain⟨q1,q2⟩:=Ve c1;obtain⟨q3,_⟩:=Ve c2;have hA:A.size=l.length+es.length:=by rw[<-c9,Qo,aj,q1,q3]
   have zf:∀i,i<l.length->A[i]? = o1[i]? := λi hi=>by rw[<-bA,Qo,ah (by omega)]
   have r6:∀i,A[l.length+i]? = o2[i]? := λi=>by rw[<-bA,Qo,ai (by omega)];congr 1;omega
   have jo:∀(i:Nat) (it:mX),z[i]? = some it->it.k=i/\l[i]? = some it.e/\rs[i]? = some it.rc/\i<l.length:=by
    intro i it hi;have gE:=(ae.1 hi).1;refine⟨?_,by rw[<-e1];simp[hi],by rw[<-e2];simp[hi],by omega⟩;have:(z.map (·.k))[i]? = some it.k:=by simp[hi]
    rw[e3,List.getElem?_range' (by omega)]at this;simpa using this.symm
   refine wpIn_region_any hM ?_;have qg:gv G c s.H { w with drawn:=w.drawn+1 }:=fV.fV.po (jZ.drew w);have GY:Step s.H.length c s.H w c s.H { w with drawn:=w.drawn+1 }:=Cj _ (jZ.drew w)
   have Rz:SX G N c { w with drawn:=w.drawn+1 } s.env.get (s.H++room (I.H.length-s.H.length)) s.marks a:=
    ⟨aan qg _,kK.carry (λ_ _ h=>h.pJ fV.fV.toHeapOK GY) fV.env,fV.size,fV.marks⟩
   have Q6:∀q∈(es.zipIdx l.length).map (λp=>(⟨p.2,p.1,0,⟨[],[]⟩⟩:mX)),l.length<=q.k/\q.k<l.length+es.length:=λq hq=>by grind
   have Gw:((es.zipIdx l.length).map (λp=>(⟨p.2,p.1,0,⟨[],[]⟩⟩:mX))).length=es.length:=by simp
   rw[show A.size=z.length+((es.zipIdx l.length).map (λp=>(⟨p.2,p.1,0,⟨[],[]⟩⟩:mX))).length by rw[Gw];omega];refine Uv (C:=CC P G) (λg args d Hn h=>h) he ho (lasts:=(es.zipIdx l.length).map λp=>⟨p.2,p.1,0,⟨[],[]⟩⟩) (ops:=o2) (λq hq k B=>zu q.k (Q6 q hq).1 (by simp;exact(Q6 q hq).2) k B) ?_ z.length z _ c _ _ _ a rfl ?_ Rz A8 ?_ ?_ λc' w' V U X=>?_
   .refine bT λi=>?_;simp only[bY,av,List.getElem?_zipIdx]
    cases h:es[i]? with
    | none=>
     have:es.length<=i:=by simpa using h
     simp[cj (l:=o2) (i:=i) (by omega)]
    | some e=>
     have:=(ae.1 h).1;simp[r6,List.getElem?_eq_getElem (l:=o2) (i:=i) (by omega)]
   .refine⟨by simp;omega,λj hj=>?_,?_,λit kf=>?_,λi hi hl=>?_⟩
    .refine⟨λ_=>?_,λ_=>by rw[Gw];simp[show j<z.length+es.length by omega]⟩
     by_cases ni:j<l.length
     .exact⟨z[j]'(by omega),bt _ (bP _),(jo j _ (List.getElem?_eq_getElem _)).1⟩
     .refine⟨⟨j,es[j-l.length]'(by omega),0,⟨[],[]⟩⟩,bB _ (ao.2 ⟨(es[j-l.length]'(by omega),j),?_,rfl⟩),rfl⟩;rw[List.mem_zipIdx_iff_le_and_getElem?_sub];exact⟨by omega,by simp⟩
    .refine bN.2 ⟨?_,?_,λp xW q hq=>?_⟩
     .rw[bG];intro i j hi hj Bp;rw[(jo i _ (List.getElem?_eq_getElem hi)).1,(jo j _ (List.getElem?_eq_getElem hj)).1];exact Bp
     .rw[bG];intro i j hi hj Bp;simp;omega
     .obtain⟨i,hi⟩:=aC.1 xW;have h1:=jo i p hi;have W:=Q6 q hq;omega
    .rcases List.mem_append.1 kf with kf|kf
     .obtain⟨i,hi⟩:=aC.1 kf;have:=jo i it hi;omega
     .grind
    .simp_all
   .intro it kf;obtain⟨i,hi⟩:=aC.1 kf;obtain⟨k1,k2,k3,k4⟩:=jo i it hi;have h1:o1[i]? = some (o1[i]'(by omega)):=List.getElem?_eq_getElem _;exact⟨o1[i]'(by omega),by rw[k1,zf i k4,h1],q2 i _ _ h1 k2⟩
   .intro p xW q hq zB;obtain⟨i,hi⟩:=aC.1 xW;obtain⟨j,hj⟩:=aC.1 hq;obtain⟨p1,p2,p3,p4⟩:=jo i p hi;obtain⟨SN,SP,q3,q4⟩:=jo j q hj;rw[p1,SN]at zB ⊢;have:=List.all_eq_true.1 (List.all_eq_true.1 pB j (bj.2 (by simp;omega))) i (bj.2 zB);simp only[ah p4,ah q4,p2,SP,bM,Bool.and_eq_true,du]at this;rcases this with h|⟨h1,W⟩
    .exact .inl h
    .refine .inr ⟨h1,?_⟩;rcases W with W|W
     .have:=List.all_eq_true.1 hp (i,j) W;simp only[p3,q3]at this;exact this
     .obtain⟨_,_,_,_,E1⟩:=A8.each p xW;obtain⟨_,_,_,_,E2⟩:=A8.each q hq;exact aaN E1 E2 W
   .simp only[bV,room,eF,az]at U X;have h1:=GY.trans (aao (c:=c) (w:={ w with drawn:=w.drawn+1 }) (H:=s.H) (I.H.length-s.H.length) s.H.length) (Nat.le_refl _);have W:=h1.trans X (by simp);exact x9 N A o2 c2 J n Q c' w' V (by rw[i4];exact L) ⟨U.fV,U.env,U.size,by show rO c' I.marks _;rw[i2];exact U.marks⟩ (by rw[i4];exact B.mono W i1)
 | @loop live a s R h O=>
  intro N code D J n Q c w a L fV B
  cases D with
  | loop h1=>exact an6 (O (Nat.le_refl _) N _ h1 J n Q c w a L ⟨fV.fV,C3 fV.env live,fV.size,fV.marks⟩ B)
 | @zR n0 live a s R1 R h k hs tD vC=>
  intro hn N code D J n Q c w a L fV B;refine agQ (tD N _ D J n _ c w a L fV λo c' w' V Y o6 E r7 X=>?_)
  cases o with
  | norm I=>
   have Xw:n0<=I.H.length:=Nat.le_trans hn E
   have r9:n0<=(cut n0 live I).H.length:=by
    unfold cut;split
    .exact Xw
    .dsimp only;rw[Ou];simp[iV]
   have uB:(cut n0 live I).iq=s.iq:=by have Nk:I.iq=s.iq:=o6;unfold cut;split<;>exact Nk
   obtain⟨c2,nj,sO,_⟩:=AE r7 Xw live;refine vC I Y r9 N _ D J n Q c2 w' V (λh=>L (by rw[<-uB];exact h)) nj ?_;rw[uB];exact B.mono ((X.weaken hn).trans sO (Nat.le_refl _)) (Nat.le_refl _)
  | exit id I=>exact B _ c' w' V (hs _ Y rfl) o6 (Nat.le_trans hn E) r7 (X.weaken hn)
  | ret I=>exact B _ c' w' V (hs _ Y rfl) o6 (Nat.le_trans hn E) r7 (X.weaken hn)
 | @nW rf live x s f first cap fn R1 R o6 hx hf hp h k O=>
  intro N code D J n Q c w a L fV B;have t':=L o6;subst t'
  cases D with
  | nW DW u9=>
   obtain⟨func,code,h1,W,t1,t2,t3,_⟩:=(hT.fn f fn hf).ex;exact an9 fV DW hx t3 u9 (live:=live) (R1:=EE R1) (R:=outs R) O k B
 | @exit id s R h=>
  intro N code D J n Q c w a L fV B;cases D;exact wpIn_exit (B _ c w a h rfl (Nat.le_refl _) fV (Step.refl _ _ _ _))
 | @ret s R h=>
  intro N code D J n Q c w a L fV B;cases D;exact wpIn_ret (B _ c w a h rfl (Nat.le_refl _) fV (Step.refl _ _ _ _))
 | @call f args H fn R1 R own hf hl h k O=>
  intro c w vs fV iu;obtain⟨func,code,hs,U,t1,t2,t3,t7,t4,t5,t6⟩:=(hT.fn f fn hf).ex;have uB:=ams hT.rt t1 t2 t7;rw[t5]at uB;refine callsIn_wide (n:=0) |>.1 (callsIn_of_wp_marks (F:=FW none) t1 t2 trivial (O fn.ntmps code (Pc uB t4) none 0 _ c w _ (λ_=>rfl) ⟨fV,ac5 iu _,?_,.nil⟩ ?_))
  .simp;omega
  .intro o c' w' V Y o6 E lN X;obtain⟨d,H',kI,r5⟩:=k o Y
   have g9:∀s:St,o.st=s->∀H1,kill s.marks s.H=some H1->∀d0,AL.results fn { s with H:=H1 }=some d0->leave own H.length H1 d0=(d,H') ->
     LeavesInM (FW none) 0 P func V.tmps (λe w'=>∃v c' d H',e = .returned v/\EE R d H'/\H.length<=H'.length/\gv G c' H' w'/\fR c' w' v d/\Step H.length c H w c' H' w') V.defers .returning w':=by
    rintro s rfl H1 afp d0 DO afr;refine agB lN.marks lN.fV afp λw1 q1 q2 q3=>?_;have Nl:kX G fn.ntmps c' w1 { o.st with H:=H1,marks:=[] } { V with defers:=[] }:=⟨q1,λj=>(lN.env j).pJ lN.fV.toHeapOK q2,lN.size,.nil⟩;obtain⟨v,hv,G1⟩:=amE Nl t6 (d:=d0) (by rw[<-DO];exact amD { o.st with H:=H1 } []);have r8:H.length<=H1.length:=by rw[q3];exact E
    obtain⟨c2,k1,k2,k3,k4⟩:=zQ q1 r8 own G1;rw[afr]at k1 k2 k3 k4;exact⟨v,hv,v,c2,d,H',rfl,r5,k4,k1,k2,(X.trans q2 E).trans k3 (Nat.le_refl _)⟩
   have rr:∀s:St,finish fn own H.length (.norm s)=some (d,H')->∃H1,kill s.marks s.H=some H1/\∃d0,AL.results fn { s with H:=H1 }=some d0/\leave own H.length H1 d0=(d,H'):=by
    intro s hf;simp only[finish]at hf;split at hf
    .grind
    .cases hf
   cases o with
   | norm s=>
    obtain⟨H1,q1,d0,q2,q3⟩:=rr s kI;exact g9 s rfl H1 q1 d0 q2 q3
   | ret s=>
    obtain⟨H1,q1,d0,q2,q3⟩:=rr s kI;exact g9 s rfl H1 q1 d0 q2 q3
   | exit id s=>cases kI
end
end Go.AL
namespace Go.AL
open Go
def Ms:Value->Value->Bool
 | .int k a,.int k' b=>decide (k=k')&&decide (a=b)
 | .bool a,.bool b=>a == b
 | .string a,.string b=>decide (a.data.toList=b.data.toList)
 | .nilFunc,.nilFunc=>true
 | .tuple a,.tuple b=>a.toList.isEmpty&&b.toList.isEmpty
 | _,_=>false
mutual
def oV:D->D->Bool
 | .any,.any=>true
 | .val a,.val b=>Ms a b
 | .agg a,.agg b=>ta a b
 | .tup a,.tup b=>ta a b
 | .sl n a,.sl m b=>decide (n=m)&&C4 a b
 | .fX,.fX=>true
 | .fM a b c d e,.fM a' b' c' d' e'=>decide (a=a')&&decide (b=b')&&decide (c=c')&&decide (d=d')&&decide (e=e')
 | .ptr a b c,.ptr a' b' c'=>decide (a=a')&&decide (b=b')&&decide (c=c')
 | .gi a,.gi b=>ta a b
 | .gx a,.gx b=>decide (a=b)
 | .iP a,.iP b=>decide (a=b)
 | .fn (.func f) a b,.fn (.func f') a' b'=>decide (f=f')&&ta a a'&&ta b b'
 | _,_=>false
def ta:List D->List D->Bool
 | [],[]=>true
 | a::l,b::m=>oV a b&&ta l m
 | _,_=>false
def C4:List (List D)->List (List D)->Bool
 | [],[]=>true
 | a::l,b::m=>ta a b&&C4 l m
 | _,_=>false
end
def AK:Env->Env->Bool
 | [],[]=>true
 | (i,a)::l,(j,b)::m=>decide (i=j)&&oV a b&&AK l m
 | _,_=>false
def C5:List (Value×D)->List (Value×D)->Bool
 | [],[]=>true
 | (i,a)::l,(j,b)::m=>Ms i j&&oV a b&&C5 l m
 | _,_=>false
def PI:Ob->Ob->Bool
 | .row t g a,.row t' g' b=>decide (t=t')&&decide (g=g')&&ta a b
 | .map k a,.map k' b=>decide (k=k')&&C5 a b
 | .ia r e s,.ia r' e' s'=>decide (r=r')&&AK e e'&&decide (s=s')
 | .sn a p,.sn b q=>decide (a.data.toList=b.data.toList)&&decide (p=q)
 | .iX m s l,.iX m' s' l'=>oV m m'&&decide (s=s')&&decide (l=l')
 | .jv,.jv=>true
 | .dead,.dead=>true
 | .lL,.lL=>true
 | _,_=>false
def AM:U->U->Bool
 | [],[]=>true
 | a::l,b::m=>PI a b&&AM l m
 | _,_=>false
def FR(s t:St):Bool:=AK s.env t.env&&AM s.H t.H&&decide (s.marks=t.marks)&&(s.iq == t.iq)
def PJ:Out->Out->Bool
 | .norm s,.norm t=>FR s t
 | .exit i s,.exit j t=>decide (i=j)&&FR s t
 | .ret s,.ret t=>FR s t
 | _,_=>false
def PK(a b:D×U):Bool:=oV a.1 b.1&&AM a.2 b.2
def once{α:Type}(b:α->α->Bool):List α->List α
 | []=>[]
 | [a]=>[a]
 | a::l=>let m:=once b l;if m.any (b a)then m else a::m
def sx{α b:Type}:List α->(α->Option (List b))->Option (List b)
 | [],_=>some []
 | [a],f=>f a
 | a::l,f=>match f a,sx l f with
  | some x,some y=>some (x++y)
  | _,_=>none
abbrev yB:=FuncId->List D->U->Option (List (D×U))
abbrev Cn:=IR->St->Option (List Out)
def refsOf(s:St)(args:List D):List Nat:=dedup (args.map (iv s.H 40)).flatten
def Of(cl:yB)(e:gR)(f:FuncId)(s:St):Option (List St):=
 match kA s.env.get e.op with
 | none=>none
 | some (f',args)=>if f'=f then(match cl f (args.map (gd (λ_=>none) s.H 40)) []with
  | some l=>sx l λp=>match after s e.dst args p.1 p.2 with
   | some a=>some [a]
   | none=>none
  | none=>none)else none
def S8(T:il)(cl:yB)(e:gR)(s:St):Option (List St):=
 match kA s.env.get e.op with
 | none=>none
 | some (f,args)=>match T.fn f with
  | none=>none
  | some fn=>
   match fn.full with
   | true=>match cl f args s.H with
    | some l=>some (l.map λp=>{ s with env:=put s.env e.dst p.1,H:=p.2 })
    | none=>none
   | false=>if fn.fz&&s.marks.isEmpty && !gw args then Of cl e f (lW (refsOf s args) s)else Of cl e f s
def Tb(T:il)(rd:Cn)(e:gR)(s:St)(v:Nat)(args:List D):Option (List St):=
 match s.H[v]? with
 | some (.ia rf env0 .ready)=>match T.round rf with
  | some Rd=>if args.length=Rd.params.length then
    match rd Rd.a { env:=tR Rd.params args env0,H:=s.H,iq:=true }with
    | some b=>match sx b λo=>match o with
      | .norm s1=>match s1.H[v]? with
       | some (.ia rf1 kY .ready)=>if rf1=rf then rd Rd.b { s1 with H:=s1.H.set v (.ia rf kY .busy) }else none
       | _=>none
      | _=>none with
     | some a=>sx a λo=>match o.st.H[v]? with
      | some (.ia rf2 ly .busy)=>if rf2=rf then some [{ s with env:=put s.env e.dst (.b !o.stop),H:=o.st.H.set v (.ia rf ly o.Ad) }]else none
      | _=>none
     | none=>none
    | none=>none
   else none
  | none=>none
 | _=>none
def Ta(e:gR)(s:St)(x:X):Option (List St):=
 match ev s.env.get x with
 | .ptr v 0 0=>match s.H[v]? with
  | some (.iX (.gx m) since seen)=>match s.H[m]? with
   | some (.map _ es)=>if es.length=since then
     let left:=(List.range es.length).filter λi => !seen.contains i
     if left.isEmpty then some [{ s with env:=put s.env e.dst (.tup [.b false]) }]else
      some (left.filterMap λi=>match es[i]? with
       | some (k,d)=>some { s with env:=put s.env e.dst (.tup [.b true,se k,d]),H:=s.H.set v (.iX (.gx m) since (seen ++ [i])) }
       | none=>none)
    else none
   | _=>none
  | _=>none
 | _=>none
def w7(T:il)(cl:yB)(rd:Cn):List gR->St->Option (List St)
 | [],s=>some [s]
 | e::r,s=>match guardOf s.env.get e.guard with
  | none=>none
  | some false=>w7 T cl rd r { s with env:=put s.env e.dst (.val undef) }
  | some true=>match gH s.env.get s.H s.H.length e.op with
   | some (d,δ)=>w7 T cl rd r { s with env:=put s.env e.dst d,H:=δ.app s.H (Al.last s.H) }
   | none=>match ml s.env.get s.H s.H.length e.op with
    | some (d,δ)=>w7 T cl rd r { s with env:=put s.env e.dst d,H:=δ.app s.H (Al.last s.H) }
    | none=>match e.op with
     | .nextM x=>match Ta e s x with
      | some l=>sx l λa=>w7 T cl rd r a
      | none=>none
     | _=>match yieldOf s.env.get e.op with
      | some (v,args)=>match Tb T rd e s v args with
       | some l=>sx l λa=>w7 T cl rd r a
       | none=>none
      | none=>match kA s.env.get e.op with
       | none=>none
       | some _=>match S8 T cl e s with
        | some l=>sx l λa=>w7 T cl rd r a
        | none=>none
def isN:iD->Bool
 | .callN _ _=>true
 | _=>false
def yu(T:il)(cl:yB)(st:Bool):List gR->St->Option (List Rc×St)
 | [],s=>some ([],s)
 | e::r,s=>match guardOf s.env.get e.guard with
  | none=>none
  | some false=>match yu T cl st r { s with env:=put s.env e.dst (.val undef) }with
   | some (rs,s')=>some (⟨[],[]⟩::rs,s')
   | none=>none
  | some true=>match gH s.env.get s.H s.H.length e.op with
   | some (d,δ)=>match yu T cl st r { s with env:=put s.env e.dst d,H:=δ.app s.H (Al.last s.H) }with
    | some (rs,s')=>some (⟨gK s.env.get s.H e.op,jO s.H.length δ⟩::rs,s')
    | none=>none
   | none=>match kA s.env.get e.op with
    | none=>none
    | some (f,args)=>match T.fn f with
     | none=>none
     | some fn=>if fn.full||(st&&fn.fz && !gw args && !isN e.op)then none else match cl f (args.map (gd (λ_=>none) s.H 40)) []with
      | some [(d,[])]=>if (if gw args then closed d else flat d)then(match yu T cl st r { s with env:=put s.env e.dst d }with
       | some (rs,s')=>some (⟨gK s.env.get s.H e.op,[]⟩::rs,s')
       | none=>none)else(match e.op with
       | .callN _ _=>match (args.map (iv s.H 40)).flatten with
        | v::l=>if (l.all λu=>decide (u=v))&&(rowsOf s.H v).isSome&&gw (args.map (gd (λ_=>none) s.H 40))&&closed d then(match yu T cl st r { s with env:=put s.env e.dst d,H:=s.H.set v .dead }with
         | some (rs,s')=>some (⟨gK s.env.get s.H e.op,[(v,none)]⟩::rs,s')
         | none=>none)else none
        | []=>none
       | _=>none)
      | some [(d,[ob])]=>match e.op with
       | .callN _ _=>if (if gw args then mL d&&nY ob else oH d&&pn ob)then(match yu T cl st r { s with env:=put s.env e.dst (ku s.H.length d),H:=s.H ++ [ob] }with
        | some (rs,s')=>some (⟨gK s.env.get s.H e.op,[(s.H.length,none)]⟩::rs,s')
        | none=>none)else none
       | _=>none
      | _=>none
def rK(T:il)(cl:yB)(d:Nat->List Nat->IR->St->Option (List Out))(rd:Cn):IR->St->Option (List Out)
 | .skip,s=>some [.norm s]
 | .ops l,s=>match w7 T cl rd l s with
  | some l=>some (l.map .norm)
  | none=>none
 | .lU jz l,s=>match yu T cl true l s with
  | some (rs,e)=>if vM jz rs then some [.norm e]else none
  | none=>if s.marks.isEmpty then(match yu T cl false l (lW (List.range s.H.length) s)with
   | some (rs,e)=>if vM jz rs then some [.norm e]else none
   | none=>none)else none
 | .mF ..,_=>none
 | .seq a b,s=>match rK T cl d rd a s with
  | some l=>sx l λo=>match o with
   | .norm e=>rK T cl d rd b e
   | o=>some [o]
  | none=>none
 | .cond c a b,s=>match ev s.env.get c with
  | .val (.bool true)=>rK T cl d rd a s
  | .val (.bool false)=>rK T cl d rd b s
  | _=>none
 | .block id live a,s=>match rK T cl d rd a s with
  | some l=>some (once PJ (l.map (lG id s.H.length live)))
  | none=>none
 | .loop live a,s=>d s.H.length live a { s with env:=forget live s.env }
 | .nW rf live x,s=>if s.iq then none else match ev s.env.get x with
  | .fn (.func f) first cap=>match T.fn f with
   | some fn=>if fn.full then
     match cl f (first ++ [.iP (s.H.length+1)]++cap) (s.H ++ [.jv,.ia rf (forget live s.env) .ready])with
     | some l=>sx l λp=>match p.2[s.H.length+1]? with
      | some (.ia rf' _ st)=>if rf'=rf then(match z6 { s with H:=p.2.set (s.H.length+1) .dead,marks:=s.H.length::s.marks } st with
       | some o=>some [o]
       | none=>none)else none
      | _=>none
     | none=>none
    else none
   | none=>none
  | _=>none
 | .exit id,s=>some [.exit id s]
 | .ret,s=>some [.ret s]
 | .bad,_=>none
 | .fz _ _,_=>none
 | .u5 _ _ _,_=>none
abbrev v8:=List (FuncId×List D×List (D×U))
def HX:v8->FuncId->List D->Option (List (D×U))
 | [],_,_=>none
 | (g,xp,l)::M,f,args=>match Nat.beq g f with
  | true=>match ta xp args with
   | true=>some l
   | false=>HX M f args
  | false=>HX M f args
def known(M:v8)(f:FuncId)(args:List D):U->Option (List (D×U))
 | []=>HX M f args
 | _=>none
mutual
def B7(T:il)(M:v8):Nat->Nat->List Nat->IR->St->Option (List Out)
 | 0,_,_,_,_=>none
 | k+1,n,live,a,s=>match rK T (run T M k) (B7 T M k) (En T M k) a s with
  | some l=>sx l λo=>match o with
   | .norm b=>B7 T M k n live a (cut n live b)
   | o=>some [o]
  | none=>none
def En(T:il)(M:v8):Nat->Cn
 | 0,_,_=>none
 | k+1,c,s=>rK T (run T M k) (B7 T M k) (En T M k) c s
def run(T:il)(M:v8):Nat->yB
 | 0,_,_,_=>none
 | k+1,f,args,H=>match known M f args H with
  | some l=>some l
  | none=>match T.fn f with
  | none=>none
  | some fn=>if args.length<=fn.ntmps then(match rK T (run T M k) (B7 T M k) (En T M k) fn.body { env:=tJ args,H:=H }with
   | some l=>match sx l λo=>match finish fn fn.own H.length o with
     | some p=>some [p]
     | none=>none with
    | some ps=>some (once PK ps)
    | none=>none
   | none=>none)else none
end
end Go.AL
namespace Go.AL
open Go
theorem VF{a b:Value}(h:Ms a b=true):a=b:=by
 unfold Ms at h;split at h
 .grind
 .grind
 .rename_i a b;simp only[decide_eq_true_eq]at h
  have:a=b:=by cases a;cases b;congr 1;exact Array.ext' h
  rw[this]
 .rfl
 .grind
 .cases h
mutual
theorem FQ:∀ {a b:D},oV a b=true->a=b
 | .any,b,h=>by cases b<;>simp[oV]at h ⊢
 | .val a,b,h=>by cases b<;>simp[oV]at h ⊢;exact VF h
 | .agg a,b,h=>by cases b<;>simp[oV]at h ⊢;exact xE h
 | .tup a,b,h=>by cases b<;>simp[oV]at h ⊢;exact xE h
 | .sl n a,b,h=>by cases b<;>simp[oV]at h ⊢;exact⟨h.1,Vy h.2⟩
 | .fX,b,h=>by cases b<;>simp[oV]at h ⊢
 | .lS _,b,h=>by cases b<;>simp[oV]at h
 | .fM a1 a2 a3 a4 a5,b,h=>by cases b<;>simp[oV]at h ⊢;simp[h]
 | .ptr a1 a2 a3,b,h=>by cases b<;>simp[oV]at h ⊢;simp[h]
 | .gi a,b,h=>by cases b<;>simp[oV]at h ⊢;exact xE h
 | .gx a,b,h=>by cases b<;>simp[oV]at h ⊢;exact h
 | .iP a,b,h=>by cases b<;>simp[oV]at h ⊢;exact h
 | .fn f a a',b,h=>by
  cases f<;>cases b<;>first|(simp[oV]at h;done)|skip
  rename_i f g b c;cases g<;>simp[oV]at h ⊢;exact⟨h.1.1,xE h.1.2,xE h.2⟩
theorem xE:∀ {a b:List D},ta a b=true->a=b
 | [],[],_=>rfl
 | a::l,b::m,h=>by simp only[ta,Bool.and_eq_true]at h;rw[FQ h.1,xE h.2]
 | [],_::_,h=>by simp[ta]at h
 | _::_,[],h=>by simp[ta]at h
theorem Vy:∀ {a b:List (List D)},C4 a b=true->a=b
 | [],[],_=>rfl
 | a::l,b::m,h=>by simp only[C4,Bool.and_eq_true]at h;rw[xE h.1,Vy h.2]
 | [],_::_,h=>by simp[C4]at h
 | _::_,[],h=>by simp[C4]at h
end
theorem PG:∀ {a b:Env},AK a b=true->a=b
 | [],[],_=>rfl
 | (i,a)::l,(j,b)::m,h=>by simp only[AK,Bool.and_eq_true,decide_eq_true_eq]at h;rw[h.1.1,FQ h.1.2,PG h.2]
 | [],_::_,h=>by simp[AK]at h
 | _::_,[],h=>by simp[AK]at h
theorem Vz:∀ {a b:List (Value×D)},C5 a b=true->a=b
 | [],[],_=>rfl
 | (i,a)::l,(j,b)::m,h=>by simp only[C5,Bool.and_eq_true]at h;rw[VF h.1.1,FQ h.1.2,Vz h.2]
 | [],_::_,h=>by simp[C5]at h
 | _::_,[],h=>by simp[C5]at h
theorem ac6{a b:Ob}(h:PI a b=true):a=b:=by
 unfold PI at h;split at h
 .simp only[Bool.and_eq_true,decide_eq_true_eq]at h;rw[h.1.1,h.1.2,xE h.2]
 .simp only[Bool.and_eq_true,decide_eq_true_eq]at h;rw[h.1,Vz h.2]
 .simp only[Bool.and_eq_true,decide_eq_true_eq]at h;rw[h.1.1,PG h.1.2,h.2]
 .rename_i a p b q;simp only[Bool.and_eq_true,decide_eq_true_eq]at h
  have:a=b:=by cases a;cases b;congr 1;exact Array.ext' h.1
  rw[this,h.2]
 .simp only[Bool.and_eq_true,decide_eq_true_eq]at h;rw[FQ h.1.1,h.1.2,h.2]
 .rfl
 .rfl
 .rfl
 .cases h
theorem PH:∀ {a b:U},AM a b=true->a=b
 | [],[],_=>rfl
 | a::l,b::m,h=>by simp only[AM,Bool.and_eq_true]at h;rw[ac6 h.1,PH h.2]
 | [],_::_,h=>by simp[AM]at h
 | _::_,[],h=>by simp[AM]at h
theorem PL{a b:St}(h:FR a b=true):a=b:=by obtain⟨e,H,m,r⟩:=a;obtain⟨j,H',i,g⟩:=b;simp only[FR,Bool.and_eq_true,decide_eq_true_eq,beq_iff_eq]at h;obtain⟨⟨⟨h1,f⟩,d⟩,c⟩:=h;rw[PG h1,PH f,d,c]
theorem ac7{a b:Out}(h:PJ a b=true):a=b:=by
 unfold PJ at h;split at h
 .rw[PL h]
 .simp only[Bool.and_eq_true,decide_eq_true_eq]at h;rw[h.1,PL h.2]
 .rw[PL h]
 .cases h
theorem ac8{a b:D×U}(h:PK a b=true):a=b:=by simp only[PK,Bool.and_eq_true]at h;exact cO (FQ h.1) (PH h.2)
theorem NZ{α:Type}{d:α->α->Bool}(h:∀a b,d a b=true->a=b):∀ {l:List α} {a:α},a∈l->a∈once d l
 | [a],b,hb=>hb
 | a::b::l,c,hc=>by
  rw[once]
  .split
   .rename_i e;rcases aw.1 hc with rfl|hc
    .grind
    .exact NZ h hc
   .rcases aw.1 hc with rfl|hc
    .grind
    .exact a8 _ (NZ h hc)
  .grind
theorem xn{α g:Type}{f:α->Option (List g)}:∀ {l:List α} {r:List g},sx l f=some r->∀a∈l,∃y,f a=some y/\∀b∈y,b∈r
 | [],r,_,a,ha=>by simp at ha
 | [a],r,h,b,hb=>by simp only[List.mem_singleton]at hb;subst hb;exact⟨r,h,λ_ h=>h⟩
 | a::b::l,r,h,c,hc=>by
  rw[sx]at h
  .split at h
   .rename_i x y m j;cases h;rcases aw.1 hc with rfl|hc
    .grind
    .obtain⟨z,i,e⟩:=xn j c hc;exact⟨z,i,λd k=>bB _ (e d k)⟩
   .cases h
  .grind
section
variable{T:il}{cl:yB}{rd:Cn}
def v7(l:List Out):pe->Prop:=λr=>∃o∈l,r = .out o
def E9(l:List St):pe->Prop:=λr=>∃s∈l,r = .out (.norm s)
def kS(l:List (D×U)):pe->Prop:=λr=>∃p∈l,r = .val p.1 p.2
def rM(T:il)(cl:yB):Prop:=∀f args H l,cl f args H=some l->Ev T (.call f args H) (kS l)
def Lz(T:il)(rd:Cn):Prop:=∀c s l,rd c s=some l->Ev T (.code c s) (v7 l)
theorem v7.out{l:List Out}{o:Out}(h:v7 l (.out o)):o∈l:=by obtain⟨o',h1,a⟩:=h;cases a;exact h1
theorem kS.val{l:List (D×U)}{d:D}{H:U}(h:kS l (.val d H)):(d,H)∈l:=by obtain⟨o',h1,a⟩:=h;cases a;exact h1
theorem E9.sub{a b:List St}(h:∀s∈a,s∈b){r:pe}(c:E9 a r):E9 b r:=by obtain⟨s,h1,d⟩:=c;exact⟨s,h s h1,d⟩
theorem v7.sub{a b:List Out}(h:∀s∈a,s∈b){r:pe}(c:v7 a r):v7 b r:=by obtain⟨s,h1,d⟩:=c;exact⟨s,h s h1,d⟩
theorem aeM{S:List Nat}{s:St}{g:Option (Nat×Bool)}{b:Bool}(h:guardOf s.env.get g=some b):guardOf (lW S s).env.get g=some b:=by
 cases g with
 | none=>exact h
 | some p=>
  simp only[guardOf,lW]at h ⊢
  have e:Env.get (s.env.map λp=>(p.1,gd (iB (mm s.H S)) s.H 40 p.2)) p.1=gd (iB (mm s.H S)) s.H 40 (s.env.get p.1):=by
   generalize s.env=env
   induction env with
   | nil=>rfl
   | cons q r c=>
    obtain⟨j,d⟩:=q;simp only[List.map_cons,Env.wD];split
    .rfl
    .exact c
  rw[e];split at h
  .rename_i x a;rw[a];have:gd (iB (mm s.H S)) s.H 40 (.val (.bool x)) = .val (.bool x):=by unfold gd;rfl
   rw[this];exact h
  .rename_i vs a;rw[a];have:gd (iB (mm s.H S)) s.H 40 (.val (.tuple vs)) = .val (.tuple vs):=by unfold gd;rfl
   rw[this];exact h
  .cases h
theorem aat(q:rM T cl){e:gR}{r:List gR}{f:FuncId}{fn:je}{s:St}{l:List St}{R:pe->Prop}(hg:guardOf s.env.get e.guard=some true)(n:T.fn f=some fn)(m:fn.full=false)
  (h:Of cl e f s=some l) (k:∀b∈l,Ev T (.ops r b) R):Ev T (.ops (e::r) s) R:=by
 unfold Of at h;split at h
 .cases h
 .rename_i f' args o;split at h
  .rename_i t;subst t;split at h
   .rename_i u i;have g:=xn h;refine .Fz hg o n m (q _ _ _ _ i) (λd Hn c=>?_) λd Hn b c p=>?_
    .obtain⟨y,a,_⟩:=g _ c.val;dsimp only at a;split at a
     .grind
     .cases a
    .obtain⟨y,a,j⟩:=g _ c.val;dsimp only at a;rw[p]at a;cases a;exact k b (j b (by simp))
   .cases h
  .cases h
theorem am0(c:rM T cl){e:gR}{r:List gR}{s:St}{l:List St}{R:pe->Prop}(hg:guardOf s.env.get e.guard=some true)
  (h:S8 T cl e s=some l) (k:∀i∈l,Ev T (.ops r i) R):Ev T (.ops (e::r) s) R:=by
 unfold S8 at h;split at h
 .cases h
 .rename_i f args n;split at h
  .cases h
  .rename_i fn b;split at h
   .rename_i a;split at h
    .rename_i o j;cases h;refine .Fy hg n b a (c _ _ _ _ j) λd H' m=>k _ ?_;exact ao.2 ⟨(d,H'),m.val,rfl⟩
    .cases h
   .rename_i a;split at h
    .rename_i g;simp only[Bool.and_eq_true,ea]at g;refine .lW (refsOf s args) ?_ (aat c (aeM hg) b a h k);rw[g.1.2];rfl
    .exact aat c hg b a h k
theorem am2(g:Lz T rd){e:gR}{r:List gR}{s:St}{v:Nat}{args:List D}{l:List St}{R:pe->Prop}(hg:guardOf s.env.get e.guard=some true)(A:yieldOf s.env.get e.op=some (v,args))
  (h:Tb T rd e s v args=some l) (k:∀p∈l,Ev T (.ops r p) R):Ev T (.ops (e::r) s) R:=by
 unfold Tb at h;split at h
 .rename_i rf env0 x;split at h
  .rename_i Rd B;split at h
   .rename_i hl;split at h
    .rename_i F n;split at h
     .rename_i u f;have m:=xn f;have j:=xn h;refine .LR hg A x B hl (g _ _ _ n) (Rb:=v7 u) (λo b=>?_) (λs1 i w c=>?_) (λo b=>?_) λo E b t=>?_
      .obtain⟨y,a,_⟩:=m o b.out;split at a
       .rename_i s1;split at a
        .rename_i q i c;split at a
         .rename_i C;subst C;exact⟨rfl,i,c⟩
         .cases a
        .cases a
       .cases a
      .obtain⟨y,a,d⟩:=m _ w.out;simp only[c,if_true]at a;exact(g _ _ _ a).mono λr z=>z.sub d
      .obtain⟨y,a,_⟩:=j o b.out;split at a
       .grind
       .cases a
      .obtain⟨y,a,d⟩:=j o b.out;simp only[t,if_true]at a;cases a;exact k _ (d _ (by simp))
     .cases h
    .cases h
   .cases h
  .cases h
 .cases h
theorem am1{e:gR}{r:List gR}{s:St}{x:X}{l:List St}{R:pe->Prop}(hg:guardOf s.env.get e.guard=some true)(b:e.op = .nextM x)
  (h:Ta e s x=some l) (k:∀a∈l,Ev T (.ops r a) R):Ev T (.ops (e::r) s) R:=by
 unfold Ta at h;split at h
 .rename_i v c;split at h
  .rename_i m since seen f;split at h
   .rename_i kk es g;split at h
    .rename_i hs;dsimp only at h;refine .next hg b c f g hs (λh0=>?_) λi kv d hi n=>?_
     .rw[if_pos]at h
      .grind
      .simp_all
     .have j:=(ae.1 hi).1;rw[if_neg]at h
      .grind
      .rw[ea,List.filter_eq_nil_iff];intro h0;have:=h0 i (by simpa using j);simp at this;exact n this
    .cases h
   .cases h
  .cases h
 .cases h
theorem Ia(c:rM T cl)(b:Lz T rd):∀(l:List gR) (s:St) (r:List St),w7 T cl rd l s=some r->Ev T (.ops l s) (E9 r)
 | [],s,r,h=>by cases h;exact .nil ⟨s,by simp,rfl⟩
 | e::r,s,res,h=>by
  have g:∀ {l:List St},(sx l λa=>w7 T cl rd r a)=some res->∀a∈l,Ev T (.ops r a) (E9 res):=λhl a o=>by obtain⟨y,m,j⟩:=xn hl a o;exact(Ia c b r a y m).mono λ_ n=>n.sub j
  simp only[w7]at h;split at h
  .cases h
  .rename_i hg;exact .off hg (Ia c b r _ _ h)
  .rename_i hg;split at h
   .rename_i d δ f;exact .op hg f (Ia c b r _ _ h)
   .split at h
    .rename_i d δ f;exact .Cc hg f (Ia c b r _ _ h)
    .split at h
     .rename_i x k;split at h
      .rename_i l hl;exact am1 hg k hl (g h)
      .cases h
     .split at h
      .rename_i v args i;split at h
       .rename_i l hl;exact am2 b hg i hl (g h)
       .cases h
      .split at h
       .cases h
       .rename_i i;split at h
        .rename_i l hl;exact am0 c hg hl (g h)
        .cases h
theorem B8(a:rM T cl)(st:Bool):∀(l:List gR) (s:St) (rs:List Rc) (j:St),yu T cl st l s=some (rs,j)->Ev T (.trace l s) (λr=>r = .tr rs j)
 | [],s,rs,j,h=>by cases h;exact .Iy rfl
 | e::r,s,rs,j,h=>by
  simp only[yu]at h;split at h
  .cases h
  .rename_i hg;split at h
   .rename_i h1;cases h;exact .Iz hg (B8 a st r _ _ _ h1) λ_ _ h=>by cases h;rfl
   .cases h
  .rename_i hg;split at h
   .rename_i d δ x;split at h
    .rename_i h1;cases h;exact .IA hg x (B8 a st r _ _ _ h1) λ_ _ h=>by cases h;rfl
    .cases h
   .split at h
    .cases h
    .rename_i f args q;split at h
     .cases h
     .rename_i fn p;split at h
      .cases h
      .rename_i A;have o:fn.full=false:=by grind
       split at h
       .rename_i d k
        by_cases b:(if gw args=true then closed d else flat d)=true
        .rw[if_pos b]at h;split at h
         .rename_i h1;cases h;refine .Iv hg q p o (a _ _ _ _ k) (λd' Hn i=>?_) b (B8 a st r _ _ _ h1) λ_ _ h=>by cases h;rfl
          have:=i.val;simp only[List.mem_singleton,dB]at this;exact this
         .cases h
        .rw[if_neg b]at h;split at h
         .rename_i g m c;split at h
          .rename_i v l w;split at h
           .rename_i t;simp only[Bool.and_eq_true,List.all_eq_true,decide_eq_true_eq]at t;obtain⟨⟨⟨C,c2⟩,z⟩,y⟩:=t;split at h
            .rename_i h1;cases h;have n:some (g,m.map (ev s.env.get))=some (f,args):=by rw[<-q,c];rfl
             cases n;refine .Ix (v:=v) hg c rfl p o (λu B=>?_) (by rw[w];simp) c2 z (a _ _ _ _ k) (λd' Hn i=>?_) y (B8 a st r _ _ _ h1) λ_ _ h=>by cases h;rfl
             .grind
             .have:=i.val;simp only[List.mem_singleton,dB]at this;exact this
            .cases h
           .cases h
          .cases h
         .cases h
       .rename_i d ob k;split at h
        .rename_i g m c
         by_cases b:(if gw args=true then mL d&&nY ob else oH d&&pn ob)=true
         .rw[if_pos b]at h;split at h
          .rename_i h1;cases h;have n:some (g,m.map (ev s.env.get))=some (f,args):=by rw[<-q,c];rfl
           cases n;refine .Iw hg c rfl p o (a _ _ _ _ k) (λd' Hn i=>?_) b (B8 a st r _ _ _ h1) λ_ _ h=>by cases h;rfl
           have:=i.val;simp only[List.mem_singleton,dB]at this;exact this
          .cases h
         .grind
        .cases h
       .cases h
theorem S9(q:rM T cl)(E:Lz T rd){C:Nat->List Nat->IR->St->Option (List Out)}(z:∀n live a s l,C n live a s=some l->Ev T (.loop n live a s) (v7 l)) :
  ∀(c:IR) (s:St) (l:List Out),rK T cl C rd c s=some l->Ev T (.code c s) (v7 l):=by
 intro c
 induction c with
 | skip=>intro s l h;cases h;exact .skip ⟨_,by simp,rfl⟩
 | ops ops=>
  intro s l h;simp only[rK]at h;split at h
  .rename_i u h1;cases h;refine .FK ((Ia q E _ _ _ h1).mono λr v=>?_);obtain⟨j,B,rfl⟩:=v;exact⟨_,ao.2 ⟨j,B,rfl⟩,rfl⟩
  .cases h
 | mF I ops es=>intro s l h;simp[rK]at h
 | lU I ops=>
  intro s l h;simp only[rK]at h;split at h
  .rename_i rs j h1;split at h
   .rename_i w;cases h;exact .lU (B8 q _ _ _ _ _ h1) λ_ _ h=>by cases h;exact⟨w,_,by simp,rfl⟩
   .cases h
  .split at h
   .rename_i i;split at h
    .rename_i rs j h1;split at h
     .rename_i w;cases h;refine .F4 (List.range s.H.length) ?_ (.lU (B8 q _ _ _ _ _ h1) λ_ _ h=>by cases h;exact⟨w,_,by simp,rfl⟩);rw[ea]at i;rw[i];rfl
     .cases h
    .cases h
   .cases h
 | seq a b k t=>
  intro s l h;simp only[rK]at h;split at h
  .rename_i u h1;have i:=xn h;refine .seq (k _ _ h1) (λj B=>?_) λo p M=>?_
   .obtain⟨y,g,m⟩:=i _ B.out;exact(t _ _ g).mono λ_ v=>v.sub m
   .obtain⟨y,g,m⟩:=i _ p.out
    cases o with
    | norm=>cases M
    | exit id j=>cases g;exact⟨_,m _ (by simp),rfl⟩
    | ret j=>cases g;exact⟨_,m _ (by simp),rfl⟩
  .cases h
 | cond c a b k t=>
  intro s o h;simp only[rK]at h;split at h
  .rename_i A;exact .cond (x:=true) A (k _ _ h)
  .rename_i A;exact .cond (x:=false) A (t _ _ h)
  .cases h
 | block id live a k=>
  intro s l h;simp only[rK]at h;split at h
  .rename_i u h1;cases h;refine .block (k _ _ h1) λo p=>⟨_,NZ (λ_ _=>ac7) (ao.2 ⟨o,p.out,rfl⟩),rfl⟩
  .cases h
 | loop live a k=>intro s o h;exact .loop (z _ _ _ _ _ h)
 | nW rf live x=>
  intro s l h;simp only[rK]at h;split at h
  .cases h
  .rename_i G;split at h
   .rename_i f first cap hx
    split at h
    .rename_i fn K;split at h
     .rename_i D;split at h
      .rename_i u J;have i:=xn h;refine .nW (by simpa using G) hx K D (q _ _ _ _ J) λd H' L=>?_;obtain⟨y,g,m⟩:=i _ L.val;dsimp only at g;split at g
       .rename_i F env st H;split at g
        .rename_i e;subst e;split at g
         .rename_i o p;cases g;exact⟨env,st,o,H,p,_,m _ (by simp),rfl⟩
         .cases g
        .cases g
       .cases g
      .cases h
     .cases h
    .cases h
   .cases h
 | exit id=>intro s o h;cases h;exact .exit ⟨_,by simp,rfl⟩
 | ret=>intro s o h;cases h;exact .ret ⟨_,by simp,rfl⟩
 | bad=>intro s o h;cases h
 | fz _ _=>intro s o h;cases h
 | u5 _ _ _=>intro s o h;cases h
end
section
variable{T:il}
def lu(T:il)(M:v8):Prop:=∀p∈M,Ev T (.call p.1 p.2.1 []) (kS p.2.2)
theorem lu.nil(T:il):lu T []:=λp a=>by cases a
theorem lu.cons{T:il}{f:FuncId}{args:List D}{l:List (D×U)}{M:v8}(h:Ev T (.call f args []) (kS l))(t:lu T M):lu T ((f,args,l)::M):=λp a=>by
 rcases aw.1 a with rfl|a
 .exact h
 .exact t p a
theorem amu{M:v8}(hM:lu T M){f:FuncId}{args:List D}{l:List (D×U)}(h:HX M f args=some l):Ev T (.call f args []) (kS l):=by
 induction M with
 | nil=>cases h
 | cons p M i=>
  obtain⟨g,a,e⟩:=p;have d:lu T M:=λq b=>hM q (by simp[b]);simp only[HX]at h;split at h
  .rename_i hg;split at h
   .rename_i c;cases h;have:=hM (g,a,l) (by simp);rw[xE c,cd hg]at this;exact this
   .grind
  .grind
theorem aaw{M:v8}(hM:lu T M):∀k:Nat,(∀n live a s l,B7 T M k n live a s=some l->Ev T (.loop n live a s) (v7 l))/\Lz T (En T M k)/\rM T (run T M k)
 | 0=>⟨λ_ _ _ _ _ h=>by simp[B7]at h,λ_ _ _ h=>by simp[En]at h,λ_ _ _ _ h=>by simp[run]at h⟩
 | k+1=>by
  obtain⟨e,j,i⟩:=aaw hM k;refine⟨λn live a s l h=>?_,λc s l h=>?_,λf args H l h=>?_⟩
  .simp only[B7]at h;split at h
   .rename_i r h1;have g:=xn h;refine .zR (S9 i j e _ _ _ h1) (λq A=>?_) λo m z=>?_
    .obtain⟨y,b,d⟩:=g _ A.out;exact(e _ _ _ _ _ b).mono λ_ u=>u.sub d
    .obtain⟨y,b,d⟩:=g _ m.out
     cases o with
     | norm=>cases z
     | exit id q=>cases b;exact⟨_,d _ (by simp),rfl⟩
     | ret q=>cases b;exact⟨_,d _ (by simp),rfl⟩
   .cases h
  .simp only[En]at h;exact S9 i j e _ _ _ h
  .simp only[run]at h;split at h
   .rename_i r t;cases h
    cases H with
    | nil=>exact amu hM t
    | cons=>cases t
   split at h
   .cases h
   .rename_i fn w;split at h
    .rename_i hl;split at h
     .rename_i r h1;split at h
      .rename_i ps x;cases h;have g:=xn x;refine .call fn.own w hl (S9 i j e _ _ _ h1) λo m=>?_;obtain⟨y,b,d⟩:=g _ m.out;split at b
       .rename_i p v;cases b;exact⟨p.1,p.2,v,p,NZ (λ_ _=>ac8) (d _ (by simp)),rfl⟩
       .cases b
      .cases h
     .cases h
    .cases h
theorem pZ{M:v8}(hM:lu T M){k:Nat}{f:FuncId}{args:List D}{H:U}{l:List (D×U)}(h:run T M k f args H=some l):Ev T (.call f args H) (kS l):=(aaw hM k).2.2 f args H l h
end
end Go.AL
namespace Go.AL
open Go
@[reducible] def o(k:Nat)(op:iD):gR:={ dst:=some k,op:=op,guard:=none }
@[reducible] def u(op:iD):gR:={ dst:=none,op:=op,guard:=none }
@[reducible] def og(j:Nat)(b:Bool)(k:Nat)(op:iD):gR:={ dst:=some k,op:=op,guard:=some (j,b) }
@[reducible] def ug(j:Nat)(b:Bool)(op:iD):gR:={ dst:=none,op:=op,guard:=some (j,b) }
def Zw(n:Nat):List D:=List.replicate n (.val (.int .u32 0))
def Zb(n:Nat):List D:=List.replicate n (.val (.int .u8 0))
def Dd:List D:=([1779033703,3144134277,1013904242,2773480762,1359893119,2600822924,528734635,1541459225]:List Int).map λn=>.val (.int .u32 n)
def Dp:List D:=([1116352408,1899447441,3049323471,3921009573,961987163,1508970993,2453635748,2870763221,3624381080,310598401,607225278,1426881987,1925078388,2162078206,2614888103,3248222580,3835390401,4022224774,264347078,604807628,770255983,1249150122,1555081692,1996064986,2554220882,2821834349,2952996808,3210313671,3336571891,3584528711,113926993,338241895,666307205,773529912,1294757372,1396182291,1695183700,1986661051,2177026350,2456956037,2730485921,2820302411,3259730800,3345764771,3516065817,3600352804,4094571909,275423344,430227734,506948616,659060556,883997877,958139571,1322822218,1537002063,1747873779,1955562222,2024104815,2227730452,2361852424,2428436474,2756734187,3204031479,3329325298]:List Int).map λn=>.val (.int .u32 n)
def nth:List (Option je)->Nat->Option je
 | [],_=>none
 | a::_,0=>a
 | _::l,n+1=>nth l n
def assoc:List (Nat×qb)->Nat->Option qb
 | [],_=>none
 | (k,R)::l,n=>if k=n then some R else assoc l n
def elem(f:Nat):List Nat->Bool
 | []=>false
 | a::l=>if a=f then true else elem f l
def Ft(fn:Func):Code:=fn.body.getD .skip
def B4(P:Program)(rf:Nat):Array Tmp:=match Ae P rf with
 | some (_,ps,_,_)=>ps
 | none=>#[]
def B0(P:Program)(rf:Nat):Code:=match Ae P rf with
 | some (_,_,a,_)=>a
 | none=>.skip
def B1(P:Program)(rf:Nat):Code:=match Ae P rf with
 | some (_,_,_,b)=>b
 | none=>.skip
section
variable{P:Program}{G:GT}
theorem aeG{f:FuncId}{fn:je}{func:Func}{code:Code}{hs a:List (List Nat)}(h1:P.funcs[f]? = some func)(h:func.body=some code)(g:sF P f=true)(e:(nJ code).length<=64)
  (d:cC P G fn.ntmps (64*f) hs code=some (fn.body,a)) (c:func.ntmps=fn.ntmps) (b:Ax P func.results.toList=some fn.results):E6 P G f fn:=⟨⟨func,code,hs,a,h1,h,g,e,d,c,b⟩⟩
theorem B3{rf:Nat}{R:qb}{N:Nat}{ps:Array Tmp}{ac bc:Code}(d c:List (List Nat))(h1:G.rt rf=some (N,ps,ac,bc))(h:ps.toList=R.params)(g:(R.params.all λp=>decide (p<N))=true)
  (b:nJ ac = []/\nJ bc = []) (f:cC P G N 0 d ac=some (R.a,[])) (e:cC P G N 0 c bc=some (R.b,[])):uS P G rf R:=
 ⟨⟨N,ps,ac,bc,h1,h,g,Pc (λi x a=>by rw[b.1]at a;cases a) f,Pc (λi x a=>by rw[b.2]at a;cases a) e⟩⟩
inductive xg(P:Program)(G:GT):Nat->List (Option je)->Prop
 | nil (k:Nat):xg P G k []
 | has {k:Nat} {fn:je} {l:List (Option je)} (h:E6 P G k fn) (t:xg P G (k+1) l):xg P G k (some fn::l)
 | no {k:Nat} {l:List (Option je)} (t:xg P G (k+1) l):xg P G k (none::l)
inductive Au(P:Program)(G:GT):List (Nat×qb)->Prop
 | nil:Au P G []
 | cons {k:Nat} {R:qb} {l:List (Nat×qb)} (h:uS P G k R) (t:Au P G l):Au P G ((k,R)::l)
theorem xg.get:∀ {l:List (Option je)} {k:Nat},xg P G k l->∀(i:Nat) (fn:je),nth l i=some fn->E6 P G (k+i) fn:=by
 intro l k h
 induction h with
 | nil=>intro i fn hi;cases hi
 | has h t a=>
  intro i fn hi
  cases i with
  | zero=>cases hi;exact h
  | succ i=>
   have:=a i fn hi;rwa [a7,dq 1 i]at this
 | no t a=>
  intro i fn hi
  cases i with
  | zero=>cases hi
  | succ i=>
   have:=a i fn hi;rwa [a7,dq 1 i]at this
theorem Au.get{l:List (Nat×qb)}(h:Au P G l):∀(i:Nat) (R:qb),assoc l i=some R->uS P G i R:=by
 induction h with
 | nil=>intro i R hi;cases hi
 | @cons k b l h t a=>
  intro i R hi;simp only[assoc]at hi;split at hi
  .rename_i e;subst e;cases hi;exact h
  .exact a i R hi
theorem anS{l:List (Option je)}{r:List (Nat×qb)}{a:FuncId->Option Nat}(d:G.rt=Ae P)(h:xg P G 0 l)(j:Au P G r){b:FuncId->Bool}(i:∀f sz,a f=some sz->xl P f sz)(g:∀f,b f=true->Av P f){c:FuncId->Bool}(e:∀f,c f=true->An P f):OY P G { fn:=nth l,round:=assoc r,sort:=a,sV:=b,sD:=c } where
 sort:=i
 sV:=g
 sD:=e
 rt:=d
 fn f fn hf:=by have:=h.get f fn hf;rwa [aQ]at this
 round:=j.get
