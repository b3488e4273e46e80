/- Part 7 of DisputeHonest. -/
import Derived.Test.YtmehofoficaelaaGreatDoorH06
import Derived.KernelRfl
set_option linter.all false
namespace Go.AL
open Go
def CC(P:Program)(G:GT)(g:FuncId)(args:List D)(d:D)(Hn:U):Prop:=rz P g=true/\xk P G g args [] d Hn
def outs(R:oD->Prop):Out->Prop:=λo=>R (.out o)
def C0(R:oD->Prop):D->U->Prop:=λd H=>R (.val d H)
def Good(P:Program)(G:GT):yZ->(oD->Prop)->Prop
 | .ops l s,R=>∀(N:Nat) (A:Array Oper) (ops:List Oper),oF P G N A ops=some l ->
   ∀(e:Option Nat) (n:Nat) (Q:Exit->Act->World->Prop) (c:Ctx) (w:World) (a:Act),(s.gW=false->e=none)->kr G N c w s a->vO G N s.H.length s.gW c s.H w (outs R) Q->wpListIn (FW e) n P A Q ops a w
 | .code ir s,R=>∀(N:Nat) (code:Code),mM P G N ir code ->
   ∀(e:Option Nat) (n:Nat) (Q:Exit->Act->World->Prop) (c:Ctx) (w:World) (a:Act),(s.gW=false->e=none)->kr G N c w s a->vO G N s.H.length s.gW c s.H w (outs R) Q->code.wpIn (FW e) n P Q a w
 | .loop n0 _ ir s,R=>n0<=s.H.length->∀(N:Nat) (code:Code),mM P G N ir code ->
   ∀(e:Option Nat) (n:Nat) (Q:Exit->Act->World->Prop) (c:Ctx) (w:World) (a:Act),(s.gW=false->e=none)->kr G N c w s a->vO G N n0 s.gW c s.H w (outs R) Q->JB (FW e) n P code Q a w
 | .call f args H,R=>tE P G f args H (C0 R)
 | .trace l s,R=>∃rs d,R (.tr rs d)/\s.H.length<=d.H.length/\d.marks=s.marks/\d.gW=s.gW/\∀(K k0:Nat),d.H.length<=K->∃b:List ml,b.map (·.e)=l/\b.map (·.rc)=rs/\b.map (·.k)=List.range' k0 l.length /\
   Tx (CC P G) s.env.get (s.H++room (K-s.H.length)) b d.env.get (d.H++room (K-d.H.length))
section
variable{P:Program}{G:GT}{T:gO}
theorem vO.mono{N n m:Nat}{gW:Bool}{c b:Ctx}{H H1:U}{w w1:World}{R:Out->Prop}{Q:Exit->Act->World->Prop}(h:vO G N n gW c H w R Q)(hs:Step n c H w b H1 w1)(a:n<=m):vO G N m gW b H1 w1 R Q:=
 λo c' w' g e d hl ft f=>h o c' w' g e d (Nat.le_trans a hl) ft (hs.trans f a)
theorem DX{N:Nat}{A:Array Oper}{o:Oper}{r:List Oper}{l:List gy}(h:oF P G N A (o::r)=some l) :
  ∃e a,l=e::a/\uY P G N A o=some e/\oF P G N A r=some a:=by
 simp only[oF]at h;split at h
 .grind
 .cases h
theorem Z0{N:Nat}{A:Array Oper}{ops:List Oper}(h:oF P G N A ops=some []):ops = []:=by
 cases ops with
 | nil=>rfl
 | cons o r=>
  obtain⟨e,a,h1,_⟩:=DX h;cases h1
theorem SV{N:Nat}{A:Array Oper}:∀ {l es:List gy} {ops:List Oper},oF P G N A ops=some (l++es)->∃b a,ops=b++a/\oF P G N A b=some l/\oF P G N A a=some es
 | [],es,ops,h=>⟨[],ops,rfl,rfl,h⟩
 | e::l,es,ops,h=>by
  cases ops with
  | nil=>cases h
  | cons o r=>
   obtain⟨j,i,h1,g,f⟩:=DX h;cases h1;obtain⟨b,a,rfl,d,c⟩:=SV f;exact⟨o::b,a,rfl,by simp only[oF,g,d],c⟩
theorem SY{N:Nat}{A:Array Oper}:∀ {ops:List Oper} {l:List gy},oF P G N A ops=some l->ops.length=l.length/\∀(i:Nat) (o:Oper) (e:gy),ops[i]? = some o->l[i]? = some e->uY P G N A o=some e:=by
 intro ops
 induction ops with
 | nil=>intro l h;cases h;exact⟨rfl,λi o e h=>by simp at h⟩
 | cons o r f=>
  intro l h;obtain⟨e,g,rfl,h1,c⟩:=DX h;obtain⟨q1,q2⟩:=f c;refine⟨by simp[q1],λi o' d a b=>?_⟩
  cases i with
  | zero=>simp at a b;subst a;subst b;exact h1
  | succ i=>exact q2 i o' d (by simpa using a) (by simpa using b)
theorem zf{N:Nat}{A:Array Oper}{ops:List Oper}{e:gy}{l:List gy}(h:oF P G N A ops=some (e::l)) :
  ∃o r,ops=o::r/\uY P G N A o=some e/\oF P G N A r=some l:=by
 cases ops with
 | nil=>cases h
 | cons o r=>
  obtain⟨d,c,h1,b,a⟩:=DX h;cases h1;exact⟨o,r,rfl,b,a⟩
theorem Yo{N:Nat}{c:Ctx}{w:World}{s:St}{a:Act}{b:Option Nat}{n:Nat}{o:Oper}{g:gZ}{f:FuncId}{args:List D}{next:Act->World->Prop}{Q:Exit->Act->World->Prop}(hs:kr G N c w s a)(i:mE P G o=some g)
  (t:r8 N o.dst=true) (m:jS s.env.get g=some (f,args)) (p:rz P f=true) {R:D->U->Prop}
  (q:∀vs:List Value,iR c w vs args->Calls P f vs.toArray w λe w'=>∃v c' d H',e = .returned v/\R d H'/\fO G c' H' w'/\fr c' w' v d/\Step s.H.length c s.H w c' H' w')
  (k:∀d H' c' w' l,R d H'->kr G N c' w' { s with env:=put s.env o.dst d,H:=H' } l->Step s.H.length c s.H w c' H' w'->next l w'):o.wpIn (FW b) n P a w next Q:=by
 obtain⟨vs,y,x⟩:=Mh hs.ft hs.env i m p;refine⟨λ_ _=>trivial,?_⟩;rw[Oper.semAt_plain (FW b) a.eval o (AA i),y];refine⟨λh=>by simp[Fence.wide]at h,DO.2 ((q vs x).mono ?_)⟩;rintro e w' ⟨v,c',d,H',rfl,u,ft,r,j⟩;exact k d H' c' w' _ u (hs.next ft j t r) j
theorem YG{s s1:St}{dst:Option Nat}{args:List D}{r:D}{Hn:U}(h:after s dst args r Hn=some s1) :
  (if fR args then ma r&&Hn.all nb else nO r&&Hn.all oJ)=true/\s1 = { s with env:=put s.env dst (jQ s.H.length r),H:=s.H++Hn }:=by
 unfold after at h;generalize (if fR args=true then ma r&&Hn.all nb else nO r&&Hn.all oJ)=b at h;cases b
 .cases h
 .grind
theorem W1{P:Program}{G:GT}{o:Oper}{b:gZ}(a:mE P G o=some b):Mv b=false:=by
 unfold mE at a;split at a
 all_goals try simp only[ax,ag,aB]at a
 all_goals (repeat' first|(obtain⟨_,_,a⟩:=a)|split at a|simp only[ag]at a)
 all_goals first|rfl|(cases a;done)|(cases a;rfl)|(split<;>rfl)
theorem ajg{P:Program}{G:GT}{o:Oper}{x:X}(a:mE P G o=some (.nextM x)):False:=by have:=W1 a;cases this
theorem ajh{P:Program}{G:GT}{o:Oper}{a:gZ}(b:mE P G o=some a){f:gj}{H:U}{n:Nat}{r:D×Dl}(h:lL f H n a=some r):False:=by have:=W1 b;cases a<;>first|(cases h;done)|(cases this;done)
theorem ajG{fn:iE}(s:St)(ms:List Nat):AL.results fn { s with marks:=ms }=AL.results fn s:=by
 have h1:∀x,CL { s with marks:=ms } x=CL s x:=λx=>by cases x<;>rfl
 have b:∀l,tw { s with marks:=ms } l=tw s l:=by
  intro l
  induction l with
  | nil=>rfl
  | cons x r a=>simp only[tw,h1,a]
 simp only[AL.results,b]
theorem ab7(hM:P.follows .mixedOrders=true)(hT:MT P G T){j:yZ}{R:oD->Prop}(h:Ev T j R):Good P G j R:=by
 induction h with
 | @mono j R R' h hi O=>
  cases j with
  | ops l s=>exactλN A ops D J n Q c w a L hs B=>O N A ops D J n Q c w a L hs λo c' w' V Y=>B o c' w' V (hi _ Y)
  | code ir s=>exactλN code D J n Q c w a L hs B=>O N code D J n Q c w a L hs λo c' w' V Y=>B o c' w' V (hi _ Y)
  | loop n0 live ir s=>exactλhn N code D J n Q c w a L hs B=>O hn N code D J n Q c w a L hs λo c' w' V Y=>B o c' w' V (hi _ Y)
  | call f args H=>exactλc w vs h1 W=>(O c w vs h1 W).mono λ_ _ ⟨v,c',d,H',he,Y,r⟩=>⟨v,c',d,H',he,hi _ Y,r⟩
  | trace l s=>
   obtain⟨rs,I,h1,W⟩:=O;exact⟨rs,I,hi _ h1,W⟩
 | @sort f g fn sz v gen t H R α fc l cf hs hg hl gd h0 vc Cq tr nt D hv k uq=>
  obtain⟨func,code,h1,W,t1,t2,t3,_⟩:=(hT.fn g fn hg).ex;exact akC (hT.sort f sz hs) t3 fc l hl gd h0 vc cf Cq tr nt (λx hx y hy c w vs h1 W=>(uq x hx y hy c w vs h1 W).mono λ_ _ ⟨v,c',d,H',he,Y,r⟩=>⟨v,c',d,H',he,by obtain⟨_,e⟩:=Y;cases e;rfl,r⟩) hv k
 | @CU f sz x H R hs k=>exact akB (hT.sort f sz hs) (f:=f) (g:=0) k
 | @rR f v gen t H R l hs h0 vc hv k=>exact akE (hT.rR f hs) l h0 vc hv k
 | @r7 f v gen t zs H R l i hs hi hv k=>exact aae (hT.r7 f hs) l i hi hv k
 | @nil s R h=>
  intro N A ops D J n Q c w a L hs B;rw[Z0 D];exact B _ c w a h rfl (Nat.le_refl _) hs (Step.refl _ _ _ _)
 | @op e r s d δ R hg h t O=>
  have E:s.H.length<=(δ.app s.H (Al.last s.H)).length:=MZ δ s.H;intro N A ops D J n Q c w a L hs B;obtain⟨o,r',rfl,ho,mI⟩:=zf D;obtain⟨s1,s2,s3,s4⟩:=xO ho;have hw:=tC hs.env s4 hg;simp only[wpListIn,hw,if_true];have s1:=SP s1 h;refine ak2 hs s1 s3 (mj.last s.H) h λc' w' V U X=>?_;rw[<-s2]at U;exact O N A r' mI J n Q c' w' V L U (B.mono X E)
 | @AW e r s d δ R hg h t O=>
  have E:s.H.length<=(δ.app s.H (Al.last s.H)).length:=MZ δ s.H;intro N A ops D J n Q c w a L hs B;obtain⟨o,r',rfl,ho,mI⟩:=zf D;obtain⟨s1,s2,s3,s4⟩:=xO ho;have hw:=tC hs.env s4 hg;simp only[wpListIn,hw,if_true];have s1:=s1.resolve_left λW=>ajh W h;refine ak4 hs s1 s3 (mj.last s.H) h λc' w' V U X=>?_;rw[<-s2]at U;exact O N A r' mI J n Q c' w' V L U (B.mono X E)
 | @off e r s R hg t O=>
  intro N A ops D J n Q c w a L hs B;obtain⟨o,r',rfl,ho,mI⟩:=zf D;obtain⟨s1,s2,s3,s4⟩:=xO ho;have hw:=tC hs.env s4 hg;simp only[wpListIn,hw,bp,if_false];refine⟨λ_ _=>trivial,?_⟩;have U:=hs.next hs.ft (Step.refl _ _ _ _) s3 (v:=undef) (d:=.val undef) (.val _)
  rw[<-s2]at U;rw[<-s2];exact O N A r' mI J n Q c w _ L (by rw[s2]at U ⊢;exact U) B
 | @lk l s R S hm t O=>
  have Z:(lk S s).H.length=s.H.length:=NS;intro N A ops D J n Q c w a L hs B;obtain⟨c',U,X,_⟩:=T5 hs S;refine O N A ops D J n Q c' w a L U ?_;rw[Z];exact B.mono X (Nat.le_refl _)
 | @Ec code s R S hm t O=>
  have Z:(lk S s).H.length=s.H.length:=NS;intro N code D J n Q c w a L hs B;obtain⟨c',U,X,_⟩:=T5 hs S;refine O N code D J n Q c' w a L U ?_;rw[Z];exact B.mono X (Nat.le_refl _)
 | @NQ l s R live t O=>
  intro N A ops D J n Q c w a L hs B;exact O N A ops D J n Q c w a L ⟨hs.ft,BC hs.env live,hs.size,hs.marks⟩ B
 | @Ky code s R live t O=>
  intro N code D J n Q c w a L hs B;exact O N code D J n Q c w a L ⟨hs.ft,BC hs.env live,hs.size,hs.marks⟩ B
 | @DN e r s f args fn R1 R hg D hf hp h ha t uq O=>
  intro N A ops oM J n Q c w a L hs B;obtain⟨o,r',rfl,ho,mI⟩:=zf oM;obtain⟨s1,s2,s3,s4⟩:=xO ho;have hw:=tC hs.env s4 hg;simp only[wpListIn,hw,if_true];obtain⟨func,code,h1,W,t1,t2,t3,_⟩:=(hT.fn f fn hf).ex
  have iI:∀d Hn,C0 R1 d Hn->(if fR args then ma d&&Hn.all nb else nO d&&Hn.all oJ)=true/\after s e.dst args d Hn=some { s with env:=put s.env e.dst (jQ s.H.length d),H:=s.H++Hn }:=λd Hn Y=>by obtain⟨I,U⟩:=cQ.1 (ha d Hn Y);obtain⟨k1,rfl⟩:=YG U;exact⟨k1,U⟩
  have s1:=DT s1 D;refine Yo hs s1 s3 D t3 (R:=λd H'=>∃d0 Hn,C0 R1 d0 Hn/\d=jQ s.H.length d0/\H'=s.H++Hn) (λvs gR=>(ajo hs.ft gR uq λd Hn Y=>(iI d Hn Y).1).mono ?_) ?_
  .grind
  .rintro d H' c' w' V ⟨d0,Hn,Y,rfl,rfl⟩ U X;rw[<-s2]at U;exact O d0 Hn _ Y (iI d0 Hn Y).2 N A r' mI J n Q c' w' V L U (B.mono X (by simp))
 | @DM e r s f args fn R1 R hg D hf hp h t uq O=>
  intro N A ops oM J n Q c w a L hs B;obtain⟨o,r',rfl,ho,mI⟩:=zf oM;obtain⟨s1,s2,s3,s4⟩:=xO ho;have hw:=tC hs.env s4 hg;simp only[wpListIn,hw,if_true];obtain⟨func,code,h1,W,t1,t2,t3,_⟩:=(hT.fn f fn hf).ex;have s1:=DT s1 D;refine Yo hs s1 s3 D t3 (R:=λd H'=>C0 R1 d H'/\s.H.length<=H'.length) (λvs gR=>(uq c w vs hs.ft gR).mono ?_) ?_
  .grind
  .rintro d H' c' w' V ⟨Y,E⟩ U X;rw[<-s2]at U;exact O d H' Y N A r' mI J n Q c' w' V L U (B.mono X E)
 | @JQ e r s v args rf env0 Rd Ra Rb R hg D hv Y hl ha hn hb hm t pd vz uu=>
  intro N A ops oM J n Q c w a L hs B;obtain⟨o,r',rfl,ho,mI⟩:=zf oM;obtain⟨s1,s2,s3,s4⟩:=xO ho;have hw:=tC hs.env s4 hg;simp only[wpListIn,hw,if_true];obtain⟨M,ps,ac,bc,tU,Lf,gq,Ox,p7⟩:=(hT.round rf Rd Y).ex;rw[<-Lf]at hl pd gq
  have s1:=s1.resolve_right λW=>by
   have:=Nj W;unfold yieldOf at D;split at D
   .rename_i p6;rw[p6]at this;cases this
   .cases D
  refine ak5 hs s1 s3 D hv tU (by simpa using hl) (λp hp=>by simpa using List.all_eq_true.1 gq p hp) (Ra:=outs Ra) (Rb:=outs Rb) ?_ hn ?_ hm ?_
  .exact λJ n Q c w a U jO=>pd M ac Ox J n Q c w a (λh=>by cases h) U jO
  .intro s1 ku x4 oq nj J n Q c w a U jO;have:=vz s1 ku x4 nj M bc p7 J n Q c w a (λh=>by simp[oq]at h) U;simp only[aF,oq]at this;exact this jO
  .intro q kG c' w' V x5 ot E U X;rw[<-s2]at U;exact uu q kG x5 ot N A r' mI J n Q c' w' V L U (B.mono X (by simpa using E))
 | @next e r s x v m since seen kk es R hg gT hx hv hm mW h0 h1 p5 sE=>
  intro N A ops oM J n Q c w a L hs B;obtain⟨o,r',rfl,ho,mI⟩:=zf oM;obtain⟨s1,s2,s3,s4⟩:=xO ho;have hw:=tC hs.env s4 hg;simp only[wpListIn,hw,if_true];rw[gT]at s1;have s1:=s1.resolve_left λW=>ajg W;refine ak1 hs s1 s3 hx hv hm mW ?_ ?_
  .intro ji c' w' V U X;rw[<-s2]at U;exact p5 ji N A r' mI J n Q c' w' V L U (B.mono X (Nat.le_refl _))
  .intro i k d hi B7 c' w' V U X;rw[<-s2]at U;exact sE i k d hi B7 N A r' mI J n Q c' w' V L U (B.mono X (by simp))
 | @skip s R h=>
  intro N code D J n Q c w a L ft B;cases D;exact wpIn_skip (B _ c w a h rfl (Nat.le_refl _) ft (Step.refl _ _ _ _))
 | @DW l s R h O=>
  intro N code D J n Q c w a L ft B
  cases D with
  | ops h=>exact wpIn_region_list (O N _ _ h J n Q c w a L ft B)
 | @seq a b s R1 R h k hs sE uo=>
  intro N code D J n Q c w a L ft B
  cases D with
  | seq h1 W=>
   refine wpIn_seq (sE N _ h1 J n _ c w a L ft λo c' w' V Y oq E qt X=>?_)
   cases o with
   | norm I=>
    have Li:I.gW=s.gW:=oq;refine uo I Y N _ W J n Q c' w' V (λh=>L (by rw[<-Li];exact h)) qt ?_;rw[Li];exact B.mono X E
   | exit id I=>exact B _ c' w' V (hs _ Y rfl) oq E qt X
   | ret I=>exact B _ c' w' V (hs _ Y rfl) oq E qt X
 | @cond c a b s x R D h O=>
  intro N code oM J n Q c w a L ft B
  cases oM with
  | @cond cx ca cb _ _ _ hx h1 W=>
   have hr:=ia ft.ft ft.env hx;rw[D]at hr
   have he:a.eval cx = .bool x:=by generalize a.eval cx=u at hr;cases hr;rfl
   refine wpIn_cond he ?_;cases x
   .exact O N _ W J n Q c w a L ft B
   .exact O N _ h1 J n Q c w a L ft B
 | @block id live a s R1 R h k O=>
  have Z:∀I:St,s.H.length<=I.H.length->s.H.length<=(cut s.H.length live I).H.length:=by
   intro I h1;unfold cut;split
   .exact h1
   .dsimp only;rw[Mo];simp[iv]
  have Vh:∀I:St,(cut s.H.length live I).gW=I.gW:=by intro I;unfold cut;split<;>rfl
  intro N code D J n Q c w a L ft B
  cases D with
  | block h1=>
   refine wpIn_block (O N _ h1 J n _ c w a L ft λo c' w' V Y oq E qt X=>?_);have nh:=k o Y
   cases o with
   | norm I=>
    obtain⟨c2,mw,rN,_⟩:=zg qt E live;exact B (.norm (cut s.H.length live I)) c2 w' V nh ((Vh I).trans oq) (Z I E) mw (X.trans rN (Nat.le_refl _))
   | exit yx I=>
    by_cases ON:yx=id
    .subst ON;obtain⟨c2,mw,rN,_⟩:=zg qt E live;simp only[kN,if_true]at nh;have:=B (.norm (cut s.H.length live I)) c2 w' V nh ((Vh I).trans oq) (Z I E) mw (X.trans rN (Nat.le_refl _));simp only[Out.ex,Exit.inBlock,if_true]at this ⊢;exact this
    .simp only[kN,if_neg ON]at nh;have:=B _ c' w' V nh oq E qt X;simp only[Out.ex,Exit.inBlock,if_neg ON]at this ⊢;exact this
   | ret I=>exact B _ c' w' V nh oq E qt X
 | @Gs s R Y=>
  exact⟨[],s,Y,Nat.le_refl _,rfl,rfl,λK k0 hK=>⟨[],rfl,rfl,rfl,.nil⟩⟩
 | @Gu e r s d δ R1 R hg h t k O=>
  obtain⟨rs,I,rD,i1,i2,i4,i3⟩:=O;refine⟨_,I,k _ _ rD,Nat.le_trans (MZ δ s.H) i1,i2,i4,λK k0 hK=>?_⟩;obtain⟨z,e1,e2,e3,wx⟩:=i3 K (k0+1) hK;obtain⟨a1,a2⟩:=M0 (YN h) K (Nat.le_trans i1 hK);refine⟨⟨k0,e,s.H.length,⟨gi s.env.get s.H e.op,jm s.H.length δ⟩⟩::z,by simp[e1],by simp[e2],by simp[e3,cG],?_⟩
  have hE:Ef (CC P G) s.env.get (s.H++room (K-s.H.length)) e s.H.length ⟨gi s.env.get s.H e.op,jm s.H.length δ⟩ d δ:=by have:=Ef.op (C:=CC P G) (f:=s.env.get) (H:=s.H++room (K-s.H.length)) (e:=e) (n:=s.H.length) hg (by rw[YM];exact h) a2;rwa [KA]at this
  refine .cons hE ?_;rw[a1];have hp:(put s.env e.dst d).get=lX s.env.get e.dst d:=FV _ _ _;rw[<-hp];exact wx
 | @Gt e r s R1 R hg t k O=>
  obtain⟨rs,I,rD,i1,i2,i4,i3⟩:=O;refine⟨_,I,k _ _ rD,i1,i2,i4,λK k0 hK=>?_⟩;obtain⟨z,e1,e2,e3,wx⟩:=i3 K (k0+1) hK;refine⟨⟨k0,e,0,⟨[],[]⟩⟩::z,by simp[e1],by simp[e2],by simp[e3,cG],.cons (.off hg) ?_⟩;have hp:(put s.env e.dst (.val undef)).get=lX s.env.get e.dst (.val undef):=FV _ _ _;rw[<-hp];exact wx
 | @Gp e r s f args fn d R0 R1 R hg D hf hp h h0 hr t k uq O=>
  obtain⟨rs,I,rD,i1,i2,i4,i3⟩:=O;refine⟨_,I,k _ _ rD,i1,i2,i4,λK k0 hK=>?_⟩;obtain⟨z,e1,e2,e3,wx⟩:=i3 K (k0+1) hK;refine⟨⟨k0,e,0,⟨gi s.env.get s.H e.op,[]⟩⟩::z,by simp[e1],by simp[e2],by simp[e3,cG],?_⟩;obtain⟨func,code,h1,W,t1,t2,t3,_⟩:=(hT.fn f fn hf).ex
  have hE:Ef (CC P G) s.env.get (s.H++room (K-s.H.length)) e 0 ⟨gi s.env.get s.H e.op,[]⟩ d .no:=by have e0:args.map (fy (λ_=>none) (s.H++room (K-s.H.length)) 40)=args.map (fy (λ_=>none) s.H 40):=ao λd _=>(F3 40 d).2;have:=Ef.call (C:=CC P G) (f:=s.env.get) (H:=s.H++room (K-s.H.length)) (e:=e) (n:=0) hg D (by rw[e0];exact⟨t3,uq.one h0⟩) hr;rwa [KA]at this
  refine .cons hE ?_;have hp:(put s.env e.dst d).get=lX s.env.get e.dst d:=FV _ _ _;rw[<-hp];exact wx
 | @Gq e r s f vT args fn d ob R0 R1 R hg gT ha hf hp h h0 hr t k uq O=>
  obtain⟨rs,I,rD,i1,i2,i4,i3⟩:=O;have E:s.H.length<=(s.H ++ [ob]).length:=by simp
  refine⟨_,I,k _ _ rD,Nat.le_trans E i1,i2,i4,λK k0 hK=>?_⟩;obtain⟨z,e1,e2,e3,wx⟩:=i3 K (k0+1) hK;have Pc:Safe s.H (.new ob):=trivial;obtain⟨a1,a2⟩:=M0 (δ:=.new ob) Pc K (by have:(s.H ++ [ob]).length<=K:=Nat.le_trans i1 hK;simpa[Dl.app,Al.last]using this);refine⟨⟨k0,e,s.H.length,⟨gi s.env.get s.H e.op,[(s.H.length,none)]⟩⟩::z,by simp[e1],by simp[e2],by simp[e3,cG],?_⟩;obtain⟨func,code,h1,W,t1,t2,t3,_⟩:=(hT.fn f fn hf).ex
  have hE:Ef (CC P G) s.env.get (s.H++room (K-s.H.length)) e s.H.length ⟨gi s.env.get s.H e.op,[(s.H.length,none)]⟩ (jQ s.H.length d) (.new ob):=by have e0:args.map (fy (λ_=>none) (s.H++room (K-s.H.length)) 40)=args.map (fy (λ_=>none) s.H 40):=ao λd _=>(F3 40 d).2;have:=Ef.callN (C:=CC P G) (f:=s.env.get) (H:=s.H++room (K-s.H.length)) (e:=e) (n:=s.H.length) hg gT ha (by rw[e0];exact⟨t3,uq.one h0⟩) hr a2;rwa [KA]at this
  refine .cons hE ?_;have MU:kF s.H.length (.new ob) (s.H++room (K-s.H.length))=(s.H ++ [ob])++room (K-(s.H ++ [ob]).length):=a1;show Tx (CC P G) (lX s.env.get e.dst (jQ s.H.length d)) (kF s.H.length (.new ob) (s.H++room (K-s.H.length))) z _ _;rw[MU];have hp:(put s.env e.dst (jQ s.H.length d)).get=lX s.env.get e.dst (jQ s.H.length d):=FV _ _ _;rw[<-hp];exact wx
 | @Gr e r s f vT args fn d v R0 R1 R hg gT ha hf hp hS hv gv gd h h0 hr t k uq O=>
  obtain⟨rs,I,rD,i1,i2,i4,i3⟩:=O;have E:s.H.length<=(s.H.set v .dead).length:=by simp
  refine⟨_,I,k _ _ rD,Nat.le_trans E i1,i2,i4,λK k0 hK=>?_⟩;obtain⟨z,e1,e2,e3,wx⟩:=i3 K (k0+1) hK
  have iC:v<s.H.length:=by
   unfold rowsOf at gv;split at gv
   .grind
   .cases gv
  have Pc:Safe s.H (.obj v .dead):=iC;obtain⟨a1,a2⟩:=M0 (δ:=.obj v .dead) Pc K (by have:(s.H.set v .dead).length<=K:=Nat.le_trans i1 hK;simpa[Dl.app]using this);refine⟨⟨k0,e,0,⟨gi s.env.get s.H e.op,[(v,none)]⟩⟩::z,by simp[e1],by simp[e2],by simp[e3,cG],?_⟩;obtain⟨func,code,h1,W,t1,t2,t3,_⟩:=(hT.fn f fn hf).ex
  have hE:Ef (CC P G) s.env.get (s.H++room (K-s.H.length)) e 0 ⟨gi s.env.get s.H e.op,[(v,none)]⟩ d (.obj v .dead):=by have e0:args.map (fy (λ_=>none) (s.H++room (K-s.H.length)) 40)=args.map (fy (λ_=>none) s.H 40):=ao λd _=>(F3 40 d).2;have e4:args.map (gN (s.H++room (K-s.H.length)) 40)=args.map (gN s.H 40):=ao λd _=>(F3 40 d).1;have:=Ef.zc (C:=CC P G) (f:=s.env.get) (H:=s.H++room (K-s.H.length)) (e:=e) (n:=0) (v:=v) hg gT ha (by rw[e4];exact hS) (by rw[e4];exact hv) (by rw[QG];exact gv) (by rw[e0];exact⟨t3,uq.one h0⟩) (by rw[e0];exact gd) hr;rwa [KA]at this
  refine .cons hE ?_;have MU:kF 0 (.obj v .dead) (s.H++room (K-s.H.length))=(s.H.set v .dead)++room (K-(s.H.set v .dead).length):=a1;show Tx (CC P G) (lX s.env.get e.dst d) (kF 0 (.obj v .dead) (s.H++room (K-s.H.length))) z _ _;rw[MU];have hp:(put s.env e.dst d).get=lX s.env.get e.dst d:=FV _ _ _;rw[<-hp];exact wx
 | @lh iY l s R1 R t hp O=>
  obtain⟨rs,I,rD,i1,i2,i4,i3⟩:=O;obtain⟨hp,zH⟩:=hp rs I rD;intro N code D J n Q c w a L ft B
  cases D with
  | @lh _ _ id A ord wB he ho oP=>
   obtain⟨z,e1,e2,e3,zJ⟩:=i3 I.H.length 0 (Nat.le_refl _);have Z:z.length=l.length:=by rw[<-e1];simp
   have gd:∀(ops:List Oper) (l:List gy),oF P G N A ops=some l->ops.length=l.length/\∀(i:Nat) (o:Oper) (e:gy),ops[i]? = some o->l[i]? = some e->uY P G N A o=some e:=by
    intro ops
    induction ops with
    | nil=>intro l h;cases h;exact⟨rfl,λi o e h=>by simp at h⟩
    | cons o r PA=>
     intro l h;obtain⟨e,l',rfl,h1,W⟩:=DX h;obtain⟨q1,q2⟩:=PA l' W;refine⟨by simp[q1],λi o' e' ho he=>?_⟩
     cases i with
     | zero=>simp at ho he;subst ho;subst he;exact h1
     | succ i=>exact q2 i o' e' (by simpa using ho) (by simpa using he)
   obtain⟨q1,q2⟩:=gd _ _ wB;have hA:A.size=l.length:=by rw[<-q1];simp
   have iJ:∀(i:Nat) (it:ml),z[i]? = some it->it.k=i/\l[i]? = some it.e/\rs[i]? = some it.rc:=by
    intro i it hi;have gq:=(ae.1 hi).1;refine⟨?_,by rw[<-e1];simp[hi],by rw[<-e2];simp[hi]⟩;have:(z.map (·.k))[i]? = some it.k:=by simp[hi]
    rw[e3,List.getElem?_range' (by omega)]at this;simpa using this.symm
   refine wpIn_region_any hM ?_;have pB:fO G c s.H { w with drawn:=w.drawn+1 }:=ft.ft.oK (jy.drew w);have E3:Step s.H.length c s.H w c s.H { w with drawn:=w.drawn+1 }:=A1 _ (jy.drew w)
   have Pg:SX G N c { w with drawn:=w.drawn+1 } s.env.get (s.H++room (I.H.length-s.H.length)) s.marks a:=
    ⟨Xx pB _,kc.carry (λ_ _ h=>h.oW ft.ft.toHeapOK E3) ft.env,ft.size,ft.marks⟩
   refine R9 (C:=CC P G) (λg args d Hn h=>h) he ho A.size z _ c _ _ _ a (by omega) ?_ Pg zJ ?_ ?_ λc' w' V U X=>?_
   .refine⟨by simp,λj hj=>?_,?_,λit jF=>?_,λi hi hl=>?_⟩
    .refine⟨λ_=>⟨z[j]'(by omega),bI _,(iJ j _ (List.getElem?_eq_getElem _)).1⟩,λ_=>by simp[hj]⟩
    .rw[bh];intro i j hi hj z6;rw[(iJ i _ (List.getElem?_eq_getElem hi)).1,(iJ j _ (List.getElem?_eq_getElem hj)).1];exact z6
    .obtain⟨i,hi⟩:=aA.1 jF;have gq:=(ae.1 hi).1;rw[(iJ i it hi).1];omega
    .simp_all
   .intro it jF;obtain⟨i,hi⟩:=aA.1 jF;have gq:=(ae.1 hi).1;obtain⟨k1,k2,k3⟩:=iJ i it hi;refine⟨A[i]'(by omega),by rw[k1];simp,q2 i _ _ (by simp) k2⟩
   .intro p wK q hq yh;obtain⟨i,hi⟩:=aA.1 wK;obtain⟨j,hj⟩:=aA.1 hq;obtain⟨p1,p2,p3⟩:=iJ i p hi;obtain⟨Qo,Qq,q3⟩:=iJ j q hj;rw[p1,Qo]at yh ⊢;have gq:=(ae.1 hj).1;have:=List.all_eq_true.1 (List.all_eq_true.1 oP j (a7.2 (by omega))) i (a7.2 yh);simp only[p2,Qq,bV,Bool.and_eq_true,da]at this;rcases this with h|⟨h1,W⟩
    .exact .inl h
    .refine .inr ⟨h1,?_⟩;rcases W with W|W
     .have:=List.all_eq_true.1 hp (i,j) W;simp only[p3,q3]at this;exact this
     .obtain⟨_,_,_,_,E1⟩:=zJ.each p wK;obtain⟨_,_,_,_,E2⟩:=zJ.each q hq;exact X3 E1 E2 W
   .simp only[cj,room,List.replicate_zero,ay]at U X;refine B _ c' w' V zH i4 i1 ⟨U.ft,U.env,U.size,by show qk c' I.marks _;rw[i2];exact U.marks⟩ ?_;have h1:=E3.trans (Xy (c:=c) (w:={ w with drawn:=w.drawn+1 }) (H:=s.H) (I.H.length-s.H.length) s.H.length) (Nat.le_refl _);exact h1.trans X (by simp)
 | @l5 iY l es s R1 R t hp k O wS=>
  obtain⟨rs,I,rD,i1,i2,i4,i3⟩:=O;have hp:=hp rs I rD;have wS:=wS rs I rD;intro N code D J n Q c w a L ft B
  cases D with
  | @l5 _ _ _ id A ord wB he ho oP yd=>
   obtain⟨z,e1,e2,e3,zJ⟩:=i3 I.H.length 0 (Nat.le_refl _);have Z:z.length=l.length:=by rw[<-e1];simp
   obtain⟨o1,o2,Oc,c1,c2⟩:=SV wB;obtain⟨q1,q2⟩:=SY c1;obtain⟨q3,_⟩:=SY c2;have hA:A.size=l.length+es.length:=by rw[<-cS,Oc,ar,q1,q3]
   have xZ:∀i,i<l.length->A[i]? = o1[i]? := λi hi=>by rw[<-bq,Oc,ah (by omega)]
   have q':∀i,A[l.length+i]? = o2[i]? := λi=>by rw[<-bq,Oc,ai (by omega)];congr 1;omega
   have iJ:∀(i:Nat) (it:ml),z[i]? = some it->it.k=i/\l[i]? = some it.e/\rs[i]? = some it.rc/\i<l.length:=by
    intro i it hi;have gq:=(ae.1 hi).1;refine⟨?_,by rw[<-e1];simp[hi],by rw[<-e2];simp[hi],by omega⟩;have:(z.map (·.k))[i]? = some it.k:=by simp[hi]
    rw[e3,List.getElem?_range' (by omega)]at this;simpa using this.symm
   refine wpIn_region_any hM ?_;have pB:fO G c s.H { w with drawn:=w.drawn+1 }:=ft.ft.oK (jy.drew w);have E3:Step s.H.length c s.H w c s.H { w with drawn:=w.drawn+1 }:=A1 _ (jy.drew w)
   have Pg:SX G N c { w with drawn:=w.drawn+1 } s.env.get (s.H++room (I.H.length-s.H.length)) s.marks a:=
    ⟨Xx pB _,kc.carry (λ_ _ h=>h.oW ft.ft.toHeapOK E3) ft.env,ft.size,ft.marks⟩
   have OV:∀q∈(es.zipIdx l.length).map (λp=>(⟨p.2,p.1,0,⟨[],[]⟩⟩:ml)),l.length<=q.k/\q.k<l.length+es.length:=λq hq=>by grind
   have EI:((es.zipIdx l.length).map (λp=>(⟨p.2,p.1,0,⟨[],[]⟩⟩:ml))).length=es.length:=by simp
   rw[show A.size=z.length+((es.zipIdx l.length).map (λp=>(⟨p.2,p.1,0,⟨[],[]⟩⟩:ml))).length by rw[EI];omega];refine Sa (C:=CC P G) (λg args d Hn h=>h) he ho (lasts:=(es.zipIdx l.length).map λp=>⟨p.2,p.1,0,⟨[],[]⟩⟩) (ops:=o2) (λq hq k B=>yd q.k (OV q hq).1 (by simp;exact(OV q hq).2) k B) ?_ z.length z _ c _ _ _ a rfl ?_ Pg zJ ?_ ?_ λc' w' V U X=>?_
   .refine bL λi=>?_;simp only[cD,aq,List.getElem?_zipIdx]
    cases h:es[i]? with
    | none=>
     have:es.length<=i:=by simpa using h
     simp[bY (l:=o2) (i:=i) (by omega)]
    | some e=>
     have:=(ae.1 h).1;simp[q',List.getElem?_eq_getElem (l:=o2) (i:=i) (by omega)]
   .refine⟨by simp;omega,λj hj=>?_,?_,λit jF=>?_,λi hi hl=>?_⟩
    .refine⟨λ_=>?_,λ_=>by rw[EI];simp[show j<z.length+es.length by omega]⟩
     by_cases mu:j<l.length
     .exact⟨z[j]'(by omega),bA _ (bI _),(iJ j _ (List.getElem?_eq_getElem _)).1⟩
     .refine⟨⟨j,es[j-l.length]'(by omega),0,⟨[],[]⟩⟩,bN _ (au.2 ⟨(es[j-l.length]'(by omega),j),?_,rfl⟩),rfl⟩;rw[List.mem_zipIdx_iff_le_and_getElem?_sub];exact⟨by omega,by simp⟩
    .refine bG.2 ⟨?_,?_,λp wK q hq=>?_⟩
     .rw[bh];intro i j hi hj z6;rw[(iJ i _ (List.getElem?_eq_getElem hi)).1,(iJ j _ (List.getElem?_eq_getElem hj)).1];exact z6
     .rw[bh];intro i j hi hj z6;simp;omega
     .obtain⟨i,hi⟩:=aA.1 wK;have h1:=iJ i p hi;have W:=OV q hq;omega
    .rcases List.mem_append.1 jF with jF|jF
     .obtain⟨i,hi⟩:=aA.1 jF;have:=iJ i it hi;omega
     .grind
    .simp_all
   .intro it jF;obtain⟨i,hi⟩:=aA.1 jF;obtain⟨k1,k2,k3,k4⟩:=iJ i it hi;have h1:o1[i]? = some (o1[i]'(by omega)):=List.getElem?_eq_getElem _;exact⟨o1[i]'(by omega),by rw[k1,xZ i k4,h1],q2 i _ _ h1 k2⟩
   .intro p wK q hq yh;obtain⟨i,hi⟩:=aA.1 wK;obtain⟨j,hj⟩:=aA.1 hq;obtain⟨p1,p2,p3,p4⟩:=iJ i p hi;obtain⟨Qo,Qq,q3,q4⟩:=iJ j q hj;rw[p1,Qo]at yh ⊢;have:=List.all_eq_true.1 (List.all_eq_true.1 oP j (a7.2 (by simp;omega))) i (a7.2 yh);simp only[ah p4,ah q4,p2,Qq,bV,Bool.and_eq_true,da]at this;rcases this with h|⟨h1,W⟩
    .exact .inl h
    .refine .inr ⟨h1,?_⟩;rcases W with W|W
     .have:=List.all_eq_true.1 hp (i,j) W;simp only[p3,q3]at this;exact this
     .obtain⟨_,_,_,_,E1⟩:=zJ.each p wK;obtain⟨_,_,_,_,E2⟩:=zJ.each q hq;exact X3 E1 E2 W
   .simp only[cj,room,List.replicate_zero,ay]at U X;have h1:=E3.trans (Xy (c:=c) (w:={ w with drawn:=w.drawn+1 }) (H:=s.H) (I.H.length-s.H.length) s.H.length) (Nat.le_refl _);have W:=h1.trans X (by simp);exact wS N A o2 c2 J n Q c' w' V (by rw[i4];exact L) ⟨U.ft,U.env,U.size,by show qk c' I.marks _;rw[i2];exact U.marks⟩ (by rw[i4];exact B.mono W i1)
 | @loop live a s R h O=>
  intro N code D J n Q c w a L ft B
  cases D with
  | loop h1=>exact ak0 (O (Nat.le_refl _) N _ h1 J n Q c w a L ⟨ft.ft,BC ft.env live,ft.size,ft.marks⟩ B)
 | @yB n0 live a s R1 R h k hs sE uo=>
  intro hn N code D J n Q c w a L ft B;refine ad5 (sE N _ D J n _ c w a L ft λo c' w' V Y oq E qt X=>?_)
  cases o with
  | norm I=>
   have U0:n0<=I.H.length:=Nat.le_trans hn E
   have r2:n0<=(cut n0 live I).H.length:=by
    unfold cut;split
    .exact U0
    .dsimp only;rw[Mo];simp[iv]
   have EW:(cut n0 live I).gW=s.gW:=by have Li:I.gW=s.gW:=oq;unfold cut;split<;>exact Li
   obtain⟨c2,mw,rN,_⟩:=zg qt U0 live;refine uo I Y r2 N _ D J n Q c2 w' V (λh=>L (by rw[<-EW];exact h)) mw ?_;rw[EW];exact B.mono ((X.weaken hn).trans rN (Nat.le_refl _)) (Nat.le_refl _)
  | exit id I=>exact B _ c' w' V (hs _ Y rfl) oq (Nat.le_trans hn E) qt (X.weaken hn)
  | ret I=>exact B _ c' w' V (hs _ Y rfl) oq (Nat.le_trans hn E) qt (X.weaken hn)
 | @mZ rf live x s f first cap fn R1 R oq hx hf hp h k O=>
  intro N code D J n Q c w a L ft B;have r0:=L oq;subst r0
  cases D with
  | mZ Ck tU=>
   obtain⟨func,code,h1,W,t1,t2,t3,_⟩:=(hT.fn f fn hf).ex;exact ak3 ft Ck hx t3 tU (live:=live) (R1:=C0 R1) (R:=outs R) O k B
 | @exit id s R h=>
  intro N code D J n Q c w a L ft B;cases D;exact wpIn_exit (B _ c w a h rfl (Nat.le_refl _) ft (Step.refl _ _ _ _))
 | @ret s R h=>
  intro N code D J n Q c w a L ft B;cases D;exact wpIn_ret (B _ c w a h rfl (Nat.le_refl _) ft (Step.refl _ _ _ _))
 | @call f args H fn R1 R own hf hl h k O=>
  intro c w vs ft gR;obtain⟨func,code,hs,U,t1,t2,t3,t7,t4,t5,t6⟩:=(hT.fn f fn hf).ex;have EW:=ajv hT.rt t1 t2 t7;rw[t5]at EW;refine callsIn_wide (n:=0) |>.1 (callsIn_of_wp_marks (F:=FW none) t1 t2 trivial (O fn.ntmps code (M5 EW t4) none 0 _ c w _ (λ_=>rfl) ⟨ft,aap gR _,?_,.nil⟩ ?_))
  .simp;omega
  .intro o c' w' V Y oq E my X;obtain⟨d,H',j',p8⟩:=k o Y
   have g9:∀s:St,o.st=s->∀H1,kill s.marks s.H=some H1->∀d0,AL.results fn { s with H:=H1 }=some d0->leave own H.length H1 d0=(d,H') ->
     LeavesInM (FW none) 0 P func V.tmps (λe w'=>∃v c' d H',e = .returned v/\C0 R d H'/\H.length<=H'.length/\fO G c' H' w'/\fr c' w' v d/\Step H.length c H w c' H' w') V.defers .returning w':=by
    rintro s rfl H1 acG d0 Ce acJ;refine adT my.marks my.ft acG λw1 q1 q2 q3=>?_;have Lj:kr G fn.ntmps c' w1 { o.st with H:=H1,marks:=[] } { V with defers:=[] }:=⟨q1,λj=>(my.env j).oW my.ft.toHeapOK q2,my.size,.nil⟩;obtain⟨v,hv,E6⟩:=ajH Lj t6 (d:=d0) (by rw[<-Ce];exact ajG { o.st with H:=H1 } []);have r1:H.length<=H1.length:=by rw[q3];exact E
    obtain⟨c2,k1,k2,k3,k4⟩:=yA q1 r1 own E6;rw[acJ]at k1 k2 k3 k4;exact⟨v,hv,v,c2,d,H',rfl,p8,k4,k1,k2,(X.trans q2 E).trans k3 (Nat.le_refl _)⟩
   have pX:∀s:St,finish fn own H.length (.norm s)=some (d,H')->∃H1,kill s.marks s.H=some H1/\∃d0,AL.results fn { s with H:=H1 }=some d0/\leave own H.length H1 d0=(d,H'):=by
    intro s hf;simp only[finish]at hf;split at hf
    .grind
    .cases hf
   cases o with
   | norm s=>
    obtain⟨H1,q1,d0,q2,q3⟩:=pX s j';exact g9 s rfl H1 q1 d0 q2 q3
   | ret s=>
    obtain⟨H1,q1,d0,q2,q3⟩:=pX s j';exact g9 s rfl H1 q1 d0 q2 q3
   | exit id s=>cases j'
end
end Go.AL
namespace Go.AL
open Go
def Km:Value->Value->Bool
 | .int k a,.int k' b=>decide (k=k')&&decide (a=b)
 | .bool a,.bool b=>a == b
 | .string a,.string b=>decide (a.data.toList=b.data.toList)
 | .nilFunc,.nilFunc=>true
 | .tuple a,.tuple b=>a.toList.isEmpty&&b.toList.isEmpty
 | _,_=>false
mutual
def oa:D->D->Bool
 | .any,.any=>true
 | .val a,.val b=>Km a b
 | .agg a,.agg b=>r9 a b
 | .tup a,.tup b=>r9 a b
 | .sl n a,.sl m b=>decide (n=m)&&BD a b
 | .fw,.fw=>true
 | .fm a b c d e,.fm a' b' c' d' e'=>decide (a=a')&&decide (b=b')&&decide (c=c')&&decide (d=d')&&decide (e=e')
 | .ptr a b c,.ptr a' b' c'=>decide (a=a')&&decide (b=b')&&decide (c=c')
 | .fH a,.fH b=>r9 a b
 | .fV a,.fV b=>decide (a=b)
 | .iw a,.iw b=>decide (a=b)
 | .fn (.func f) a b,.fn (.func f') a' b'=>decide (f=f')&&r9 a a'&&r9 b b'
 | _,_=>false
def r9:List D->List D->Bool
 | [],[]=>true
 | a::l,b::m=>oa a b&&r9 l m
 | _,_=>false
def BD:List (List D)->List (List D)->Bool
 | [],[]=>true
 | a::l,b::m=>r9 a b&&BD l m
 | _,_=>false
end
def zl:Env->Env->Bool
 | [],[]=>true
 | (i,a)::l,(j,b)::m=>decide (i=j)&&oa a b&&zl l m
 | _,_=>false
def BE:List (Value×D)->List (Value×D)->Bool
 | [],[]=>true
 | (i,a)::l,(j,b)::m=>Km i j&&oa a b&&BE l m
 | _,_=>false
def Ny:Ob->Ob->Bool
 | .row t g a,.row t' g' b=>decide (t=t')&&decide (g=g')&&r9 a b
 | .map k a,.map k' b=>decide (k=k')&&BE a b
 | .gM r e s,.gM r' e' s'=>decide (r=r')&&zl e e'&&decide (s=s')
 | .q' a p,.q' b q=>decide (a.data.toList=b.data.toList)&&decide (p=q)
 | .iM m s l,.iM m' s' l'=>oa m m'&&decide (s=s')&&decide (l=l')
 | .km,.km=>true
 | .dead,.dead=>true
 | .kR,.kR=>true
 | _,_=>false
def zm:U->U->Bool
 | [],[]=>true
 | a::l,b::m=>Ny a b&&zm l m
 | _,_=>false
def D3(s t:St):Bool:=zl s.env t.env&&zm s.H t.H&&decide (s.marks=t.marks)&&(s.gW == t.gW)
def Nz:Out->Out->Bool
 | .norm s,.norm t=>D3 s t
 | .exit i s,.exit j t=>decide (i=j)&&D3 s t
 | .ret s,.ret t=>D3 s t
 | _,_=>false
def NA(a b:D×U):Bool:=oa a.1 b.1&&zm a.2 b.2
def once{α:Type}(b:α->α->Bool):List α->List α
 | []=>[]
 | [a]=>[a]
 | a::l=>let m:=once b l;if m.any (b a)then m else a::m
def rp{α b:Type}:List α->(α->Option (List b))->Option (List b)
 | [],_=>some []
 | [a],f=>f a
 | a::l,f=>match f a,rp l f with
  | some x,some y=>some (x++y)
  | _,_=>none
abbrev xj:=FuncId->List D->U->Option (List (D×U))
abbrev A4:=IR->St->Option (List Out)
def refsOf(s:St)(args:List D):List Nat:=dedup (args.map (gN s.H 40)).flatten
def Md(cl:xj)(e:gy)(f:FuncId)(s:St):Option (List St):=
 match jS s.env.get e.op with
 | none=>none
 | some (f',args)=>if f'=f then(match cl f (args.map (fy (λ_=>none) s.H 40)) []with
  | some l=>rp l λp=>match after s e.dst args p.1 p.2 with
   | some a=>some [a]
   | none=>none
  | none=>none)else none
def QH(T:gO)(cl:xj)(e:gy)(s:St):Option (List St):=
 match jS s.env.get e.op with
 | none=>none
 | some (f,args)=>match T.fn f with
  | none=>none
  | some fn=>
   match fn.full with
   | true=>match cl f args s.H with
    | some l=>some (l.map λp=>{ s with env:=put s.env e.dst p.1,H:=p.2 })
    | none=>none
   | false=>if fn.fz&&s.marks.isEmpty && !fR args then Md cl e f (lk (refsOf s args) s)else Md cl e f s
def QK(T:gO)(rd:A4)(e:gy)(s:St)(v:Nat)(args:List D):Option (List St):=
 match s.H[v]? with
 | some (.gM rf env0 .ready)=>match T.round rf with
  | some Rd=>if args.length=Rd.params.length then
    match rd Rd.a { env:=sQ Rd.params args env0,H:=s.H,gW:=true }with
    | some b=>match rp b λo=>match o with
      | .norm s1=>match s1.H[v]? with
       | some (.gM Xo ku .ready)=>if Xo=rf then rd Rd.b { s1 with H:=s1.H.set v (.gM rf ku .busy) }else none
       | _=>none
      | _=>none with
     | some a=>rp a λo=>match o.st.H[v]? with
      | some (.gM rf2 kG .busy)=>if rf2=rf then some [{ s with env:=put s.env e.dst (.b !o.stop),H:=o.st.H.set v (.gM rf kG o.yO) }]else none
      | _=>none
     | none=>none
    | none=>none
   else none
  | none=>none
 | _=>none
def QJ(e:gy)(s:St)(x:X):Option (List St):=
 match ev s.env.get x with
 | .ptr v 0 0=>match s.H[v]? with
  | some (.iM (.fV m) since seen)=>match s.H[m]? with
   | some (.map _ es)=>if es.length=since then
     let left:=(List.range es.length).filter λi => !seen.contains i
     if left.isEmpty then some [{ s with env:=put s.env e.dst (.tup [.b false]) }]else
      some (left.filterMap λi=>match es[i]? with
       | some (k,d)=>some { s with env:=put s.env e.dst (.tup [.b true,qw k,d]),H:=s.H.set v (.iM (.fV m) since (seen ++ [i])) }
       | none=>none)
    else none
   | _=>none
  | _=>none
 | _=>none
def vF(T:gO)(cl:xj)(rd:A4):List gy->St->Option (List St)
 | [],s=>some [s]
 | e::r,s=>match guardOf s.env.get e.guard with
  | none=>none
  | some false=>vF T cl rd r { s with env:=put s.env e.dst (.val undef) }
  | some true=>match gf s.env.get s.H s.H.length e.op with
   | some (d,δ)=>vF T cl rd r { s with env:=put s.env e.dst d,H:=δ.app s.H (Al.last s.H) }
   | none=>match lL s.env.get s.H s.H.length e.op with
    | some (d,δ)=>vF T cl rd r { s with env:=put s.env e.dst d,H:=δ.app s.H (Al.last s.H) }
    | none=>match e.op with
     | .nextM x=>match QJ e s x with
      | some l=>rp l λa=>vF T cl rd r a
      | none=>none
     | _=>match yieldOf s.env.get e.op with
      | some (v,args)=>match QK T rd e s v args with
       | some l=>rp l λa=>vF T cl rd r a
       | none=>none
      | none=>match jS s.env.get e.op with
       | none=>none
       | some _=>match QH T cl e s with
        | some l=>rp l λa=>vF T cl rd r a
        | none=>none
def isN:gZ->Bool
 | .callN _ _=>true
 | _=>false
def xd(T:gO)(cl:xj)(st:Bool):List gy->St->Option (List Rc×St)
 | [],s=>some ([],s)
 | e::r,s=>match guardOf s.env.get e.guard with
  | none=>none
  | some false=>match xd T cl st r { s with env:=put s.env e.dst (.val undef) }with
   | some (rs,s')=>some (⟨[],[]⟩::rs,s')
   | none=>none
  | some true=>match gf s.env.get s.H s.H.length e.op with
   | some (d,δ)=>match xd T cl st r { s with env:=put s.env e.dst d,H:=δ.app s.H (Al.last s.H) }with
    | some (rs,s')=>some (⟨gi s.env.get s.H e.op,jm s.H.length δ⟩::rs,s')
    | none=>none
   | none=>match jS s.env.get e.op with
    | none=>none
    | some (f,args)=>match T.fn f with
     | none=>none
     | some fn=>if fn.full||(st&&fn.fz && !fR args && !isN e.op)then none else match cl f (args.map (fy (λ_=>none) s.H 40)) []with
      | some [(d,[])]=>if (if fR args then closed d else flat d)then(match xd T cl st r { s with env:=put s.env e.dst d }with
       | some (rs,s')=>some (⟨gi s.env.get s.H e.op,[]⟩::rs,s')
       | none=>none)else(match e.op with
       | .callN _ _=>match (args.map (gN s.H 40)).flatten with
        | v::l=>if (l.all λu=>decide (u=v))&&(rowsOf s.H v).isSome&&fR (args.map (fy (λ_=>none) s.H 40))&&closed d then(match xd T cl st r { s with env:=put s.env e.dst d,H:=s.H.set v .dead }with
         | some (rs,s')=>some (⟨gi s.env.get s.H e.op,[(v,none)]⟩::rs,s')
         | none=>none)else none
        | []=>none
       | _=>none)
      | some [(d,[ob])]=>match e.op with
       | .callN _ _=>if (if fR args then ma d&&nb ob else nO d&&oJ ob)then(match xd T cl st r { s with env:=put s.env e.dst (jQ s.H.length d),H:=s.H ++ [ob] }with
        | some (rs,s')=>some (⟨gi s.env.get s.H e.op,[(s.H.length,none)]⟩::rs,s')
        | none=>none)else none
       | _=>none
      | _=>none
def qg(T:gO)(cl:xj)(d:Nat->List Nat->IR->St->Option (List Out))(rd:A4):IR->St->Option (List Out)
 | .skip,s=>some [.norm s]
 | .ops l,s=>match vF T cl rd l s with
  | some l=>some (l.map .norm)
  | none=>none
 | .lh iY l,s=>match xd T cl true l s with
  | some (rs,e)=>if uC iY rs then some [.norm e]else none
  | none=>if s.marks.isEmpty then(match xd T cl false l (lk (List.range s.H.length) s)with
   | some (rs,e)=>if uC iY rs then some [.norm e]else none
   | none=>none)else none
 | .l5 ..,_=>none
 | .seq a b,s=>match qg T cl d rd a s with
  | some l=>rp l λo=>match o with
   | .norm e=>qg T cl d rd b e
   | o=>some [o]
  | none=>none
 | .cond c a b,s=>match ev s.env.get c with
  | .val (.bool true)=>qg T cl d rd a s
  | .val (.bool false)=>qg T cl d rd b s
  | _=>none
 | .block id live a,s=>match qg T cl d rd a s with
  | some l=>some (once Nz (l.map (kN id s.H.length live)))
  | none=>none
 | .loop live a,s=>d s.H.length live a { s with env:=forget live s.env }
 | .mZ rf live x,s=>if s.gW then none else match ev s.env.get x with
  | .fn (.func f) first cap=>match T.fn f with
   | some fn=>if fn.full then
     match cl f (first ++ [.iw (s.H.length+1)]++cap) (s.H ++ [.km,.gM rf (forget live s.env) .ready])with
     | some l=>rp l λp=>match p.2[s.H.length+1]? with
      | some (.gM Xn _ st)=>if Xn=rf then(match AJ { s with H:=p.2.set (s.H.length+1) .dead,marks:=s.H.length::s.marks } st with
       | some o=>some [o]
       | none=>none)else none
      | _=>none
     | none=>none
    else none
   | none=>none
  | _=>none
 | .exit id,s=>some [.exit id s]
 | .ret,s=>some [.ret s]
 | .bad,_=>none
 | .fz _ _,_=>none
 | .tR _ _ _,_=>none
abbrev uR:=List (FuncId×List D×List (D×U))
def F0:uR->FuncId->List D->Option (List (D×U))
 | [],_,_=>none
 | (g,vT,l)::M,f,args=>match Nat.beq g f with
  | true=>match r9 vT args with
   | true=>some l
   | false=>F0 M f args
  | false=>F0 M f args
def known(M:uR)(f:FuncId)(args:List D):U->Option (List (D×U))
 | []=>F0 M f args
 | _=>none
mutual
def AS(T:gO)(M:uR):Nat->Nat->List Nat->IR->St->Option (List Out)
 | 0,_,_,_,_=>none
 | k+1,n,live,a,s=>match qg T (run T M k) (AS T M k) (CO T M k) a s with
  | some l=>rp l λo=>match o with
   | .norm b=>AS T M k n live a (cut n live b)
   | o=>some [o]
  | none=>none
def CO(T:gO)(M:uR):Nat->A4
 | 0,_,_=>none
 | k+1,c,s=>qg T (run T M k) (AS T M k) (CO T M k) c s
def run(T:gO)(M:uR):Nat->xj
 | 0,_,_,_=>none
 | k+1,f,args,H=>match known M f args H with
  | some l=>some l
  | none=>match T.fn f with
  | none=>none
  | some fn=>if args.length<=fn.ntmps then(match qg T (run T M k) (AS T M k) (CO T M k) fn.body { env:=sJ args,H:=H }with
   | some l=>match rp l λo=>match finish fn fn.own H.length o with
     | some p=>some [p]
     | none=>none with
    | some ps=>some (once NA ps)
    | none=>none
   | none=>none)else none
end
end Go.AL
namespace Go.AL
open Go
theorem Tm{a b:Value}(h:Km a b=true):a=b:=by
 unfold Km at h;split at h
 .grind
 .grind
 .rename_i a b;simp only[decide_eq_true_eq]at h
  have:a=b:=by cases a;cases b;congr 1;exact Array.ext' h
  rw[this]
 .rfl
 .grind
 .cases h
mutual
theorem D2:∀ {a b:D},oa a b=true->a=b
 | .any,b,h=>by cases b<;>simp[oa]at h ⊢
 | .val a,b,h=>by cases b<;>simp[oa]at h ⊢;exact Tm h
 | .agg a,b,h=>by cases b<;>simp[oa]at h ⊢;exact wh h
 | .tup a,b,h=>by cases b<;>simp[oa]at h ⊢;exact wh h
 | .sl n a,b,h=>by cases b<;>simp[oa]at h ⊢;exact⟨h.1,Th h.2⟩
 | .fw,b,h=>by cases b<;>simp[oa]at h ⊢
 | .kZ _,b,h=>by cases b<;>simp[oa]at h
 | .fm a1 a2 a3 a4 a5,b,h=>by cases b<;>simp[oa]at h ⊢;simp[h]
 | .ptr a1 a2 a3,b,h=>by cases b<;>simp[oa]at h ⊢;simp[h]
 | .fH a,b,h=>by cases b<;>simp[oa]at h ⊢;exact wh h
 | .fV a,b,h=>by cases b<;>simp[oa]at h ⊢;exact h
 | .iw a,b,h=>by cases b<;>simp[oa]at h ⊢;exact h
 | .fn f a a',b,h=>by
  cases f<;>cases b<;>first|(simp[oa]at h;done)|skip
  rename_i f g b c;cases g<;>simp[oa]at h ⊢;exact⟨h.1.1,wh h.1.2,wh h.2⟩
theorem wh:∀ {a b:List D},r9 a b=true->a=b
 | [],[],_=>rfl
 | a::l,b::m,h=>by simp only[r9,Bool.and_eq_true]at h;rw[D2 h.1,wh h.2]
 | [],_::_,h=>by simp[r9]at h
 | _::_,[],h=>by simp[r9]at h
theorem Th:∀ {a b:List (List D)},BD a b=true->a=b
 | [],[],_=>rfl
 | a::l,b::m,h=>by simp only[BD,Bool.and_eq_true]at h;rw[wh h.1,Th h.2]
 | [],_::_,h=>by simp[BD]at h
 | _::_,[],h=>by simp[BD]at h
end
theorem Nw:∀ {a b:Env},zl a b=true->a=b
 | [],[],_=>rfl
 | (i,a)::l,(j,b)::m,h=>by simp only[zl,Bool.and_eq_true,decide_eq_true_eq]at h;rw[h.1.1,D2 h.1.2,Nw h.2]
 | [],_::_,h=>by simp[zl]at h
 | _::_,[],h=>by simp[zl]at h
theorem Ti:∀ {a b:List (Value×D)},BE a b=true->a=b
 | [],[],_=>rfl
 | (i,a)::l,(j,b)::m,h=>by simp only[BE,Bool.and_eq_true]at h;rw[Tm h.1.1,D2 h.1.2,Ti h.2]
 | [],_::_,h=>by simp[BE]at h
 | _::_,[],h=>by simp[BE]at h
theorem aaq{a b:Ob}(h:Ny a b=true):a=b:=by
 unfold Ny at h;split at h
 .simp only[Bool.and_eq_true,decide_eq_true_eq]at h;rw[h.1.1,h.1.2,wh h.2]
 .simp only[Bool.and_eq_true,decide_eq_true_eq]at h;rw[h.1,Ti h.2]
 .simp only[Bool.and_eq_true,decide_eq_true_eq]at h;rw[h.1.1,Nw h.1.2,h.2]
 .rename_i a p b q;simp only[Bool.and_eq_true,decide_eq_true_eq]at h
  have:a=b:=by cases a;cases b;congr 1;exact Array.ext' h.1
  rw[this,h.2]
 .simp only[Bool.and_eq_true,decide_eq_true_eq]at h;rw[D2 h.1.1,h.1.2,h.2]
 .rfl
 .rfl
 .rfl
 .cases h
theorem Nx:∀ {a b:U},zm a b=true->a=b
 | [],[],_=>rfl
 | a::l,b::m,h=>by simp only[zm,Bool.and_eq_true]at h;rw[aaq h.1,Nx h.2]
 | [],_::_,h=>by simp[zm]at h
 | _::_,[],h=>by simp[zm]at h
theorem NB{a b:St}(h:D3 a b=true):a=b:=by obtain⟨e,H,m,r⟩:=a;obtain⟨j,H',i,g⟩:=b;simp only[D3,Bool.and_eq_true,decide_eq_true_eq,beq_iff_eq]at h;obtain⟨⟨⟨h1,f⟩,d⟩,c⟩:=h;rw[Nw h1,Nx f,d,c]
theorem aar{a b:Out}(h:Nz a b=true):a=b:=by
 unfold Nz at h;split at h
 .rw[NB h]
 .simp only[Bool.and_eq_true,decide_eq_true_eq]at h;rw[h.1,NB h.2]
 .rw[NB h]
 .cases h
theorem aas{a b:D×U}(h:NA a b=true):a=b:=by simp only[NA,Bool.and_eq_true]at h;exact eN (D2 h.1) (Nx h.2)
theorem LV{α:Type}{d:α->α->Bool}(h:∀a b,d a b=true->a=b):∀ {l:List α} {a:α},a∈l->a∈once d l
 | [a],b,hb=>hb
 | a::b::l,c,hc=>by
  rw[once]
  .split
   .rename_i e;rcases aw.1 hc with rfl|hc
    .grind
    .exact LV h hc
   .rcases aw.1 hc with rfl|hc
    .grind
    .exact aY _ (LV h hc)
  .grind
theorem vS{α g:Type}{f:α->Option (List g)}:∀ {l:List α} {r:List g},rp l f=some r->∀a∈l,∃y,f a=some y/\∀b∈y,b∈r
 | [],r,_,a,ha=>by simp at ha
 | [a],r,h,b,hb=>by simp only[List.mem_singleton]at hb;subst hb;exact⟨r,h,λ_ h=>h⟩
 | a::b::l,r,h,c,hc=>by
  rw[rp]at h
  .split at h
   .rename_i x y m j;cases h;rcases aw.1 hc with rfl|hc
    .grind
    .obtain⟨z,i,e⟩:=vS j c hc;exact⟨z,i,λd k=>bN _ (e d k)⟩
   .cases h
  .grind
section
variable{T:gO}{cl:xj}{rd:A4}
def uQ(l:List Out):oD->Prop:=λr=>∃o∈l,r = .out o
def Ds(l:List St):oD->Prop:=λr=>∃s∈l,r = .out (.norm s)
def kj(l:List (D×U)):oD->Prop:=λr=>∃p∈l,r = .val p.1 p.2
def qh(T:gO)(cl:xj):Prop:=∀f args H l,cl f args H=some l->Ev T (.call f args H) (kj l)
def JC(T:gO)(rd:A4):Prop:=∀c s l,rd c s=some l->Ev T (.code c s) (uQ l)
theorem uQ.out{l:List Out}{o:Out}(h:uQ l (.out o)):o∈l:=by obtain⟨o',h1,a⟩:=h;cases a;exact h1
theorem kj.val{l:List (D×U)}{d:D}{H:U}(h:kj l (.val d H)):(d,H)∈l:=by obtain⟨o',h1,a⟩:=h;cases a;exact h1
theorem Ds.sub{a b:List St}(h:∀s∈a,s∈b){r:oD}(c:Ds a r):Ds b r:=by obtain⟨s,h1,d⟩:=c;exact⟨s,h s h1,d⟩
theorem uQ.sub{a b:List Out}(h:∀s∈a,s∈b){r:oD}(c:uQ a r):uQ b r:=by obtain⟨s,h1,d⟩:=c;exact⟨s,h s h1,d⟩
theorem ab2{S:List Nat}{s:St}{g:Option (Nat×Bool)}{b:Bool}(h:guardOf s.env.get g=some b):guardOf (lk S s).env.get g=some b:=by
 cases g with
 | none=>exact h
 | some p=>
  simp only[guardOf,lk]at h ⊢
  have e:Env.get (s.env.map λp=>(p.1,fy (gX (lN s.H S)) s.H 40 p.2)) p.1=fy (gX (lN s.H S)) s.H 40 (s.env.get p.1):=by
   generalize s.env=env
   induction env with
   | nil=>rfl
   | cons q r c=>
    obtain⟨j,d⟩:=q;simp only[List.map_cons,Env.u9];split
    .rfl
    .exact c
  rw[e];split at h
  .rename_i x a;rw[a];have:fy (gX (lN s.H S)) s.H 40 (.val (.bool x)) = .val (.bool x):=by unfold fy;rfl
   rw[this];exact h
  .rename_i vs a;rw[a];have:fy (gX (lN s.H S)) s.H 40 (.val (.tuple vs)) = .val (.tuple vs):=by unfold fy;rfl
   rw[this];exact h
  .cases h
theorem XH(p:qh T cl){e:gy}{r:List gy}{f:FuncId}{fn:iE}{s:St}{l:List St}{R:oD->Prop}(hg:guardOf s.env.get e.guard=some true)(n:T.fn f=some fn)(m:fn.full=false)
  (h:Md cl e f s=some l) (k:∀b∈l,Ev T (.ops r b) R):Ev T (.ops (e::r) s) R:=by
 unfold Md at h;split at h
 .cases h
 .rename_i f' args o;split at h
  .rename_i t;subst t;split at h
   .rename_i u j;have g:=vS h;refine .DN hg o n m (p _ _ _ _ j) (λd Hn c=>?_) λd Hn b c q=>?_
    .obtain⟨y,a,_⟩:=g _ c.val;dsimp only at a;split at a
     .grind
     .cases a
    .obtain⟨y,a,i⟩:=g _ c.val;dsimp only at a;rw[q]at a;cases a;exact k b (i b (by simp))
   .cases h
  .cases h
theorem aj0(c:qh T cl){e:gy}{r:List gy}{s:St}{l:List St}{R:oD->Prop}(hg:guardOf s.env.get e.guard=some true)
  (h:QH T cl e s=some l) (k:∀i∈l,Ev T (.ops r i) R):Ev T (.ops (e::r) s) R:=by
 unfold QH at h;split at h
 .cases h
 .rename_i f args n;split at h
  .cases h
  .rename_i fn b;split at h
   .rename_i a;split at h
    .rename_i o j;cases h;refine .DM hg n b a (c _ _ _ _ j) λd H' m=>k _ ?_;exact au.2 ⟨(d,H'),m.val,rfl⟩
    .cases h
   .rename_i a;split at h
    .rename_i g;simp only[Bool.and_eq_true,dK]at g;refine .lk (refsOf s args) ?_ (XH c (ab2 hg) b a h k);rw[g.1.2];rfl
    .exact XH c hg b a h k
theorem aj2(g:JC T rd){e:gy}{r:List gy}{s:St}{v:Nat}{args:List D}{l:List St}{R:oD->Prop}(hg:guardOf s.env.get e.guard=some true)(z:yieldOf s.env.get e.op=some (v,args))
  (h:QK T rd e s v args=some l) (k:∀p∈l,Ev T (.ops r p) R):Ev T (.ops (e::r) s) R:=by
 unfold QK at h;split at h
 .rename_i rf env0 w;split at h
  .rename_i Rd A;split at h
   .rename_i hl;split at h
    .rename_i C n;split at h
     .rename_i t f;have m:=vS f;have j:=vS h;refine .JQ hg z w A hl (g _ _ _ n) (Rb:=uQ t) (λo b=>?_) (λs1 i u c=>?_) (λo b=>?_) λo E b q=>?_
      .obtain⟨y,a,_⟩:=m o b.out;split at a
       .rename_i s1;split at a
        .rename_i Xo i c;split at a
         .rename_i B;subst B;exact⟨rfl,i,c⟩
         .cases a
        .cases a
       .cases a
      .obtain⟨y,a,d⟩:=m _ u.out;simp only[c,if_true]at a;exact(g _ _ _ a).mono λr x=>x.sub d
      .obtain⟨y,a,_⟩:=j o b.out;split at a
       .grind
       .cases a
      .obtain⟨y,a,d⟩:=j o b.out;simp only[q,if_true]at a;cases a;exact k _ (d _ (by simp))
     .cases h
    .cases h
   .cases h
  .cases h
 .cases h
theorem aj1{e:gy}{r:List gy}{s:St}{x:X}{l:List St}{R:oD->Prop}(hg:guardOf s.env.get e.guard=some true)(j:e.op = .nextM x)
  (h:QJ e s x=some l) (k:∀a∈l,Ev T (.ops r a) R):Ev T (.ops (e::r) s) R:=by
 unfold QJ at h;split at h
 .rename_i v b;split at h
  .rename_i m since seen c;split at h
   .rename_i kk es f;split at h
    .rename_i hs;dsimp only at h;refine .next hg j b c f hs (λh0=>?_) λi kv d hi n=>?_
     .rw[if_pos]at h
      .grind
      .simp_all
     .have g:=(ae.1 hi).1;rw[if_neg]at h
      .grind
      .rw[dK,List.filter_eq_nil_iff];intro h0;have:=h0 i (by simpa using g);simp at this;exact n this
    .cases h
   .cases h
  .cases h
 .cases h
theorem F8(c:qh T cl)(b:JC T rd):∀(l:List gy) (s:St) (r:List St),vF T cl rd l s=some r->Ev T (.ops l s) (Ds r)
 | [],s,r,h=>by cases h;exact .nil ⟨s,by simp,rfl⟩
 | e::r,s,res,h=>by
  have g:∀ {l:List St},(rp l λa=>vF T cl rd r a)=some res->∀a∈l,Ev T (.ops r a) (Ds res):=λhl a o=>by obtain⟨y,k,j⟩:=vS hl a o;exact(F8 c b r a y k).mono λ_ m=>m.sub j
  simp only[vF]at h;split at h
  .cases h
  .rename_i hg;exact .off hg (F8 c b r _ _ h)
  .rename_i hg;split at h
   .rename_i d δ f;exact .op hg f (F8 c b r _ _ h)
   .split at h
    .rename_i d δ f;exact .AW hg f (F8 c b r _ _ h)
    .split at h
     .rename_i x n;split at h
      .rename_i l hl;exact aj1 hg n hl (g h)
      .cases h
     .split at h
      .rename_i v args i;split at h
       .rename_i l hl;exact aj2 b hg i hl (g h)
       .cases h
      .split at h
       .cases h
       .rename_i i;split at h
        .rename_i l hl;exact aj0 c hg hl (g h)
        .cases h
theorem AT(a:qh T cl)(st:Bool):∀(l:List gy) (s:St) (rs:List Rc) (j:St),xd T cl st l s=some (rs,j)->Ev T (.trace l s) (λr=>r = .tr rs j)
 | [],s,rs,j,h=>by cases h;exact .Gs rfl
 | e::r,s,rs,j,h=>by
  simp only[xd]at h;split at h
  .cases h
  .rename_i hg;split at h
   .rename_i h1;cases h;exact .Gt hg (AT a st r _ _ _ h1) λ_ _ h=>by cases h;rfl
   .cases h
  .rename_i hg;split at h
   .rename_i d δ x;split at h
    .rename_i h1;cases h;exact .Gu hg x (AT a st r _ _ _ h1) λ_ _ h=>by cases h;rfl
    .cases h
   .split at h
    .cases h
    .rename_i f args q;split at h
     .cases h
     .rename_i fn p;split at h
      .cases h
      .rename_i A;have o:fn.full=false:=by grind
       split at h
       .rename_i d k
        by_cases b:(if fR args=true then closed d else flat d)=true
        .rw[if_pos b]at h;split at h
         .rename_i h1;cases h;refine .Gp hg q p o (a _ _ _ _ k) (λd' Hn c=>?_) b (AT a st r _ _ _ h1) λ_ _ h=>by cases h;rfl
          have:=c.val;simp only[List.mem_singleton,dh]at this;exact this
         .cases h
        .rw[if_neg b]at h;split at h
         .rename_i g m i;split at h
          .rename_i v l w;split at h
           .rename_i t;simp only[Bool.and_eq_true,List.all_eq_true,decide_eq_true_eq]at t;obtain⟨⟨⟨C,c2⟩,z⟩,y⟩:=t;split at h
            .rename_i h1;cases h;have n:some (g,m.map (ev s.env.get))=some (f,args):=by rw[<-q,i];rfl
             cases n;refine .Gr (v:=v) hg i rfl p o (λu B=>?_) (by rw[w];simp) c2 z (a _ _ _ _ k) (λd' Hn c=>?_) y (AT a st r _ _ _ h1) λ_ _ h=>by cases h;rfl
             .grind
             .have:=c.val;simp only[List.mem_singleton,dh]at this;exact this
            .cases h
           .cases h
          .cases h
         .cases h
       .rename_i d ob k;split at h
        .rename_i g m i
         by_cases b:(if fR args=true then ma d&&nb ob else nO d&&oJ ob)=true
         .rw[if_pos b]at h;split at h
          .rename_i h1;cases h;have n:some (g,m.map (ev s.env.get))=some (f,args):=by rw[<-q,i];rfl
           cases n;refine .Gq hg i rfl p o (a _ _ _ _ k) (λd' Hn c=>?_) b (AT a st r _ _ _ h1) λ_ _ h=>by cases h;rfl
           have:=c.val;simp only[List.mem_singleton,dh]at this;exact this
          .cases h
         .grind
        .cases h
       .cases h
theorem QI(q:qh T cl)(E:JC T rd){C:Nat->List Nat->IR->St->Option (List Out)}(z:∀n live a s l,C n live a s=some l->Ev T (.loop n live a s) (uQ l)) :
  ∀(c:IR) (s:St) (l:List Out),qg T cl C rd c s=some l->Ev T (.code c s) (uQ l):=by
 intro c
 induction c with
 | skip=>intro s l h;cases h;exact .skip ⟨_,by simp,rfl⟩
 | ops ops=>
  intro s l h;simp only[qg]at h;split at h
  .rename_i u h1;cases h;refine .DW ((F8 q E _ _ _ h1).mono λr v=>?_);obtain⟨j,B,rfl⟩:=v;exact⟨_,au.2 ⟨j,B,rfl⟩,rfl⟩
  .cases h
 | l5 H ops es=>intro s l h;simp[qg]at h
 | lh H ops=>
  intro s l h;simp only[qg]at h;split at h
  .rename_i rs j h1;split at h
   .rename_i w;cases h;exact .lh (AT q _ _ _ _ _ h1) λ_ _ h=>by cases h;exact⟨w,_,by simp,rfl⟩
   .cases h
  .split at h
   .rename_i i;split at h
    .rename_i rs j h1;split at h
     .rename_i w;cases h;refine .Ec (List.range s.H.length) ?_ (.lh (AT q _ _ _ _ _ h1) λ_ _ h=>by cases h;exact⟨w,_,by simp,rfl⟩);rw[dK]at i;rw[i];rfl
     .cases h
    .cases h
   .cases h
 | seq a b k t=>
  intro s l h;simp only[qg]at h;split at h
  .rename_i u h1;have i:=vS h;refine .seq (k _ _ h1) (λj B=>?_) λo p L=>?_
   .obtain⟨y,g,m⟩:=i _ B.out;exact(t _ _ g).mono λ_ v=>v.sub m
   .obtain⟨y,g,m⟩:=i _ p.out
    cases o with
    | norm=>cases L
    | exit id j=>cases g;exact⟨_,m _ (by simp),rfl⟩
    | ret j=>cases g;exact⟨_,m _ (by simp),rfl⟩
  .cases h
 | cond c a b k t=>
  intro s o h;simp only[qg]at h;split at h
  .rename_i A;exact .cond (x:=true) A (k _ _ h)
  .rename_i A;exact .cond (x:=false) A (t _ _ h)
  .cases h
 | block id live a k=>
  intro s l h;simp only[qg]at h;split at h
  .rename_i u h1;cases h;refine .block (k _ _ h1) λo p=>⟨_,LV (λ_ _=>aar) (au.2 ⟨o,p.out,rfl⟩),rfl⟩
  .cases h
 | loop live a k=>intro s o h;exact .loop (z _ _ _ _ _ h)
 | mZ rf live x=>
  intro s l h;simp only[qg]at h;split at h
  .cases h
  .rename_i F;split at h
   .rename_i f first cap hx
    split at h
    .rename_i fn J;split at h
     .rename_i D;split at h
      .rename_i u I;have i:=vS h;refine .mZ (by simpa using F) hx J D (q _ _ _ _ I) λd H' K=>?_;obtain⟨y,g,m⟩:=i _ K.val;dsimp only at g;split at g
       .rename_i M env st G;split at g
        .rename_i e;subst e;split at g
         .rename_i o p;cases g;exact⟨env,st,o,G,p,_,m _ (by simp),rfl⟩
         .cases g
        .cases g
       .cases g
      .cases h
     .cases h
    .cases h
   .cases h
 | exit id=>intro s o h;cases h;exact .exit ⟨_,by simp,rfl⟩
 | ret=>intro s o h;cases h;exact .ret ⟨_,by simp,rfl⟩
 | bad=>intro s o h;cases h
 | fz _ _=>intro s o h;cases h
 | tR _ _ _=>intro s o h;cases h
end
section
variable{T:gO}
def kE(T:gO)(M:uR):Prop:=∀p∈M,Ev T (.call p.1 p.2.1 []) (kj p.2.2)
theorem kE.nil(T:gO):kE T []:=λp a=>by cases a
theorem kE.cons{T:gO}{f:FuncId}{args:List D}{l:List (D×U)}{M:uR}(h:Ev T (.call f args []) (kj l))(t:kE T M):kE T ((f,args,l)::M):=λp a=>by
 rcases aw.1 a with rfl|a
 .exact h
 .exact t p a
theorem ajx{M:uR}(hM:kE T M){f:FuncId}{args:List D}{l:List (D×U)}(h:F0 M f args=some l):Ev T (.call f args []) (kj l):=by
 induction M with
 | nil=>cases h
 | cons p M i=>
  obtain⟨g,a,e⟩:=p;have d:kE T M:=λq b=>hM q (by simp[b]);simp only[F0]at h;split at h
  .rename_i hg;split at h
   .rename_i c;cases h;have:=hM (g,a,l) (by simp);rw[wh c,bX hg]at this;exact this
   .grind
  .grind
theorem XK{M:uR}(hM:kE T M):∀k:Nat,(∀n live a s l,AS T M k n live a s=some l->Ev T (.loop n live a s) (uQ l))/\JC T (CO T M k)/\qh T (run T M k)
 | 0=>⟨λ_ _ _ _ _ h=>by simp[AS]at h,λ_ _ _ h=>by simp[CO]at h,λ_ _ _ _ h=>by simp[run]at h⟩
 | k+1=>by
  obtain⟨e,j,i⟩:=XK hM k;refine⟨λn live a s l h=>?_,λc s l h=>?_,λf args H l h=>?_⟩
  .simp only[AS]at h;split at h
   .rename_i r h1;have g:=vS h;refine .yB (QI i j e _ _ _ h1) (λq z=>?_) λo m A=>?_
    .obtain⟨y,b,d⟩:=g _ z.out;exact(e _ _ _ _ _ b).mono λ_ u=>u.sub d
    .obtain⟨y,b,d⟩:=g _ m.out
     cases o with
     | norm=>cases A
     | exit id q=>cases b;exact⟨_,d _ (by simp),rfl⟩
     | ret q=>cases b;exact⟨_,d _ (by simp),rfl⟩
   .cases h
  .simp only[CO]at h;exact QI i j e _ _ _ h
  .simp only[run]at h;split at h
   .rename_i r t;cases h
    cases H with
    | nil=>exact ajx hM t
    | cons=>cases t
   split at h
   .cases h
   .rename_i fn w;split at h
    .rename_i hl;split at h
     .rename_i r h1;split at h
      .rename_i ps x;cases h;have g:=vS x;refine .call fn.own w hl (QI i j e _ _ _ h1) λo m=>?_;obtain⟨y,b,d⟩:=g _ m.out;split at b
       .rename_i p v;cases b;exact⟨p.1,p.2,v,p,LV (λ_ _=>aas) (d _ (by simp)),rfl⟩
       .cases b
      .cases h
     .cases h
    .cases h
theorem ph{M:uR}(hM:kE T M){k:Nat}{f:FuncId}{args:List D}{H:U}{l:List (D×U)}(h:run T M k f args H=some l):Ev T (.call f args H) (kj l):=(XK hM k).2.2 f args H l h
end
end Go.AL
namespace Go.AL
open Go
@[reducible] def o(k:Nat)(op:gZ):gy:={ dst:=some k,op:=op,guard:=none }
@[reducible] def u(op:gZ):gy:={ dst:=none,op:=op,guard:=none }
@[reducible] def og(j:Nat)(b:Bool)(k:Nat)(op:gZ):gy:={ dst:=some k,op:=op,guard:=some (j,b) }
@[reducible] def ug(j:Nat)(b:Bool)(op:gZ):gy:={ dst:=none,op:=op,guard:=some (j,b) }
def Zw(n:Nat):List D:=List.replicate n (.val (.int .u32 0))
def Zb(n:Nat):List D:=List.replicate n (.val (.int .u8 0))
def BN:List D:=([1779033703,3144134277,1013904242,2773480762,1359893119,2600822924,528734635,1541459225]:List Int).map λn=>.val (.int .u32 n)
def BV:List D:=([1116352408,1899447441,3049323471,3921009573,961987163,1508970993,2453635748,2870763221,3624381080,310598401,607225278,1426881987,1925078388,2162078206,2614888103,3248222580,3835390401,4022224774,264347078,604807628,770255983,1249150122,1555081692,1996064986,2554220882,2821834349,2952996808,3210313671,3336571891,3584528711,113926993,338241895,666307205,773529912,1294757372,1396182291,1695183700,1986661051,2177026350,2456956037,2730485921,2820302411,3259730800,3345764771,3516065817,3600352804,4094571909,275423344,430227734,506948616,659060556,883997877,958139571,1322822218,1537002063,1747873779,1955562222,2024104815,2227730452,2361852424,2428436474,2756734187,3204031479,3329325298]:List Int).map λn=>.val (.int .u32 n)
def nth:List (Option iE)->Nat->Option iE
 | [],_=>none
 | a::_,0=>a
 | _::l,n+1=>nth l n
def assoc:List (Nat×pq)->Nat->Option pq
 | [],_=>none
 | (k,R)::l,n=>if k=n then some R else assoc l n
def elem(f:Nat):List Nat->Bool
 | []=>false
 | a::l=>if a=f then true else elem f l
def DH(fn:Func):Code:=fn.body.getD .skip
def AQ(P:Program)(rf:Nat):Array Tmp:=match yP P rf with
 | some (_,ps,_,_)=>ps
 | none=>#[]
def AN(P:Program)(rf:Nat):Code:=match yP P rf with
 | some (_,_,a,_)=>a
 | none=>.skip
def AO(P:Program)(rf:Nat):Code:=match yP P rf with
 | some (_,_,_,b)=>b
 | none=>.skip
section
variable{P:Program}{G:GT}
theorem abV{f:FuncId}{fn:iE}{func:Func}{code:Code}{hs a:List (List Nat)}(h1:P.funcs[f]? = some func)(h:func.body=some code)(g:rz P f=true)(e:(mK code).length<=64)
  (d:cC P G fn.ntmps (64*f) hs code=some (fn.body,a)) (c:func.ntmps=fn.ntmps) (b:za P func.results.toList=some fn.results):Dq P G f fn:=⟨⟨func,code,hs,a,h1,h,g,e,d,c,b⟩⟩
theorem AP{rf:Nat}{R:pq}{N:Nat}{ps:Array Tmp}{ac bc:Code}(d c:List (List Nat))(h1:G.rt rf=some (N,ps,ac,bc))(h:ps.toList=R.params)(g:(R.params.all λp=>decide (p<N))=true)
  (b:mK ac = []/\mK bc = []) (f:cC P G N 0 d ac=some (R.a,[])) (e:cC P G N 0 c bc=some (R.b,[])):tG P G rf R:=
 ⟨⟨N,ps,ac,bc,h1,h,g,M5 (λi x a=>by rw[b.1]at a;cases a) f,M5 (λi x a=>by rw[b.2]at a;cases a) e⟩⟩
inductive vN(P:Program)(G:GT):Nat->List (Option iE)->Prop
 | nil (k:Nat):vN P G k []
 | has {k:Nat} {fn:iE} {l:List (Option iE)} (h:Dq P G k fn) (t:vN P G (k+1) l):vN P G k (some fn::l)
 | no {k:Nat} {l:List (Option iE)} (t:vN P G (k+1) l):vN P G k (none::l)
inductive y7(P:Program)(G:GT):List (Nat×pq)->Prop
 | nil:y7 P G []
 | cons {k:Nat} {R:pq} {l:List (Nat×pq)} (h:tG P G k R) (t:y7 P G l):y7 P G ((k,R)::l)
theorem vN.get:∀ {l:List (Option iE)} {k:Nat},vN P G k l->∀(i:Nat) (fn:iE),nth l i=some fn->Dq P G (k+i) fn:=by
 intro l k h
 induction h with
 | nil=>intro i fn hi;cases hi
 | has h t a=>
  intro i fn hi
  cases i with
  | zero=>cases hi;exact h
  | succ i=>
   have:=a i fn hi;rwa [aU,c8 1 i]at this
 | no t a=>
  intro i fn hi
  cases i with
  | zero=>cases hi
  | succ i=>
   have:=a i fn hi;rwa [aU,c8 1 i]at this
theorem y7.get{l:List (Nat×pq)}(h:y7 P G l):∀(i:Nat) (R:pq),assoc l i=some R->tG P G i R:=by
 induction h with
 | nil=>intro i R hi;cases hi
 | @cons k b l h t a=>
  intro i R hi;simp only[assoc]at hi;split at hi
  .rename_i e;subst e;cases hi;exact h
  .exact a i R hi
theorem akO{l:List (Option iE)}{r:List (Nat×pq)}{a:FuncId->Option Nat}(d:G.rt=yP P)(h:vN P G 0 l)(j:y7 P G r){b:FuncId->Bool}(i:∀f sz,a f=some sz->vR P f sz)(g:∀f,b f=true->y8 P f){c:FuncId->Bool}(e:∀f,c f=true->yX P f):MT P G { fn:=nth l,round:=assoc r,sort:=a,rR:=b,r7:=c } where
 sort:=i
 rR:=g
 r7:=e
 rt:=d
 fn f fn hf:=by have:=h.get f fn hf;rwa [aL]at this
 round:=j.get
