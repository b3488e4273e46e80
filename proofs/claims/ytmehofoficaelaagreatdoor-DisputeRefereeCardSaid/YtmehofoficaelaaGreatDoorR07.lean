/- Part 7 of DisputeReferee. -/
import Derived.Test.YtmehofoficaelaaGreatDoorR06
import Derived.KernelRfl
set_option linter.all false
namespace Go.AL
open Go
def CC(P:Program)(G:GT)(g:FuncId)(args:List D)(d:D)(Hn:U):Prop:=rT P g=true/\xL P G g args [] d Hn
def outs(R:oS->Prop):Out->Prop:=λo=>R (.out o)
def Dy(R:oS->Prop):D->U->Prop:=λd H=>R (.val d H)
def Good(P:Program)(G:GT):zw->(oS->Prop)->Prop
 | .ops l s,R=>∀(N:Nat) (A:Array Oper) (ops:List Oper),oU P G N A ops=some l ->
   ∀(e:Option Nat) (n:Nat) (Q:Exit->Act->World->Prop) (c:Ctx) (w:World) (a:Act),(s.ik=false->e=none)->kH G N c w s a->wz G N s.H.length s.ik c s.H w (outs R) Q->wpListIn (FW e) n P A Q ops a w
 | .code ir s,R=>∀(N:Nat) (code:Code),mX P G N ir code ->
   ∀(e:Option Nat) (n:Nat) (Q:Exit->Act->World->Prop) (c:Ctx) (w:World) (a:Act),(s.ik=false->e=none)->kH G N c w s a->wz G N s.H.length s.ik c s.H w (outs R) Q->code.wpIn (FW e) n P Q a w
 | .loop n0 _ ir s,R=>n0<=s.H.length->∀(N:Nat) (code:Code),mX P G N ir code ->
   ∀(e:Option Nat) (n:Nat) (Q:Exit->Act->World->Prop) (c:Ctx) (w:World) (a:Act),(s.ik=false->e=none)->kH G N c w s a->wz G N n0 s.ik c s.H w (outs R) Q->J4 (FW e) n P code Q a w
 | .call f args H,R=>tW P G f args H (Dy R)
 | .trace l s,R=>∃rs d,R (.tr rs d)/\s.H.length<=d.H.length/\d.marks=s.marks/\d.ik=s.ik/\∀(K k0:Nat),d.H.length<=K->∃b:List mD,b.map (·.e)=l/\b.map (·.rc)=rs/\b.map (·.k)=List.range' k0 l.length /\
   Tx (CC P G) s.env.get (s.H++room (K-s.H.length)) b d.env.get (d.H++room (K-d.H.length))
section
variable{P:Program}{G:GT}{T:ia}
theorem wz.mono{N n m:Nat}{ik:Bool}{c b:Ctx}{H H1:U}{w w1:World}{R:Out->Prop}{Q:Exit->Act->World->Prop}(h:wz G N n ik c H w R Q)(hs:Step n c H w b H1 w1)(a:n<=m):wz G N m ik b H1 w1 R Q:=
 λo c' w' g e d hl fG f=>h o c' w' g e d (Nat.le_trans a hl) fG (hs.trans f a)
theorem Ew{N:Nat}{A:Array Oper}{o:Oper}{r:List Oper}{l:List gI}(h:oU P G N A (o::r)=some l) :
  ∃e a,l=e::a/\vw P G N A o=some e/\oU P G N A r=some a:=by
 simp only[oU]at h;split at h
 .grind
 .cases h
theorem aaB{N:Nat}{A:Array Oper}{ops:List Oper}(h:oU P G N A ops=some []):ops = []:=by
 cases ops with
 | nil=>rfl
 | cons o r=>
  obtain⟨e,a,h1,_⟩:=Ew h;cases h1
theorem Tp{N:Nat}{A:Array Oper}:∀ {l es:List gI} {ops:List Oper},oU P G N A ops=some (l++es)->∃b a,ops=b++a/\oU P G N A b=some l/\oU P G N A a=some es
 | [],es,ops,h=>⟨[],ops,rfl,rfl,h⟩
 | e::l,es,ops,h=>by
  cases ops with
  | nil=>cases h
  | cons o r=>
   obtain⟨j,i,h1,g,f⟩:=Ew h;cases h1;obtain⟨b,a,rfl,d,c⟩:=Tp f;exact⟨o::b,a,rfl,by simp only[oU,g,d],c⟩
theorem Tq{N:Nat}{A:Array Oper}:∀ {ops:List Oper} {l:List gI},oU P G N A ops=some l->ops.length=l.length/\∀(i:Nat) (o:Oper) (e:gI),ops[i]? = some o->l[i]? = some e->vw P G N A o=some e:=by
 intro ops
 induction ops with
 | nil=>intro l h;cases h;exact⟨rfl,λi o e h=>by simp at h⟩
 | cons o r f=>
  intro l h;obtain⟨e,g,rfl,h1,c⟩:=Ew h;obtain⟨q1,q2⟩:=f c;refine⟨by simp[q1],λi o' d a b=>?_⟩
  cases i with
  | zero=>simp at a b;subst a;subst b;exact h1
  | succ i=>exact q2 i o' d (by simpa using a) (by simpa using b)
theorem zK{N:Nat}{A:Array Oper}{ops:List Oper}{e:gI}{l:List gI}(h:oU P G N A ops=some (e::l)) :
  ∃o r,ops=o::r/\vw P G N A o=some e/\oU P G N A r=some l:=by
 cases ops with
 | nil=>cases h
 | cons o r=>
  obtain⟨d,c,h1,b,a⟩:=Ew h;cases h1;exact⟨o,r,rfl,b,a⟩
theorem YV{N:Nat}{c:Ctx}{w:World}{s:St}{a:Act}{b:Option Nat}{n:Nat}{o:Oper}{g:iu}{f:FuncId}{args:List D}{next:Act->World->Prop}{Q:Exit->Act->World->Prop}(hs:kH G N c w s a)(i:mQ P G o=some g)
  (t:sF N o.dst=true) (p:kb s.env.get g=some (f,args)) (m:rT P f=true) {R:D->U->Prop}
  (q:∀vs:List Value,je c w vs args->Calls P f vs.toArray w λe w'=>∃v c' d H',e = .returned v/\R d H'/\gf G c' H' w'/\fF c' w' v d/\Step s.H.length c s.H w c' H' w')
  (k:∀d H' c' w' l,R d H'->kH G N c' w' { s with env:=put s.env o.dst d,H:=H' } l->Step s.H.length c s.H w c' H' w'->next l w'):o.wpIn (FW b) n P a w next Q:=by
 obtain⟨vs,y,x⟩:=MI hs.fG hs.env i p m;refine⟨λ_ _=>trivial,?_⟩;rw[Oper.semAt_plain (FW b) a.eval o (A7 i),y];refine⟨λh=>by simp[Fence.wide]at h,Ek.2 ((q vs x).mono ?_)⟩;rintro e w' ⟨v,c',d,H',rfl,u,fG,r,j⟩;exact k d H' c' w' _ u (hs.next fG j t r) j
theorem Ze{s s1:St}{dst:Option Nat}{args:List D}{r:D}{Hn:U}(h:after s dst args r Hn=some s1) :
  (if gh args then mq r&&Hn.all nz else n5 r&&Hn.all oX)=true/\s1 = { s with env:=put s.env dst (j' s.H.length r),H:=s.H++Hn }:=by
 unfold after at h;generalize (if gh args=true then mq r&&Hn.all nz else n5 r&&Hn.all oX)=b at h;cases b
 .cases h
 .grind
theorem Xw{P:Program}{G:GT}{o:Oper}{b:iu}(a:mQ P G o=some b):MW b=false:=by
 unfold mQ at a;split at a
 all_goals try simp only[ay,ag,aB]at a
 all_goals (repeat' first|(obtain⟨_,_,a⟩:=a)|split at a|simp only[ag]at a)
 all_goals first|rfl|(cases a;done)|(cases a;rfl)|(split<;>rfl)
theorem ajV{P:Program}{G:GT}{o:Oper}{x:X}(a:mQ P G o=some (.nextM x)):False:=by have:=Xw a;cases this
theorem ajW{P:Program}{G:GT}{o:Oper}{a:iu}(b:mQ P G o=some a){f:gD}{H:U}{n:Nat}{r:D×Dl}(h:l5 f H n a=some r):False:=by have:=Xw b;cases a<;>first|(cases h;done)|(cases this;done)
theorem akl{fn:iP}(s:St)(ms:List Nat):AL.results fn { s with marks:=ms }=AL.results fn s:=by
 have h1:∀x,Dh { s with marks:=ms } x=Dh s x:=λx=>by cases x<;>rfl
 have b:∀l,tQ { s with marks:=ms } l=tQ s l:=by
  intro l
  induction l with
  | nil=>rfl
  | cons x r a=>simp only[tQ,h1,a]
 simp only[AL.results,b]
theorem acP(hM:P.follows .mixedOrders=true)(hT:Nj P G T){j:zw}{R:oS->Prop}(h:Ev T j R):Good P G j R:=by
 induction h with
 | @mono j R R' h hi O=>
  cases j with
  | ops l s=>exactλN A ops D J n Q c w a L hs B=>O N A ops D J n Q c w a L hs λo c' w' V Y=>B o c' w' V (hi _ Y)
  | code ir s=>exactλN code D J n Q c w a L hs B=>O N code D J n Q c w a L hs λo c' w' V Y=>B o c' w' V (hi _ Y)
  | loop n0 live ir s=>exactλhn N code D J n Q c w a L hs B=>O hn N code D J n Q c w a L hs λo c' w' V Y=>B o c' w' V (hi _ Y)
  | call f args H=>exactλc w vs h1 W=>(O c w vs h1 W).mono λ_ _ ⟨v,c',d,H',he,Y,r⟩=>⟨v,c',d,H',he,hi _ Y,r⟩
  | trace l s=>
   obtain⟨rs,I,h1,W⟩:=O;exact⟨rs,I,hi _ h1,W⟩
 | @sort f g fn sz v gen t H R α fc l cf hs hg hl gu h0 vE C0 tr nt D hv k uT=>
  obtain⟨func,code,h1,W,t1,t2,t3,_⟩:=(hT.fn g fn hg).ex;exact alh (hT.sort f sz hs) t3 fc l hl gu h0 vE cf C0 tr nt (λx hx y hy c w vs h1 W=>(uT x hx y hy c w vs h1 W).mono λ_ _ ⟨v,c',d,H',he,Y,r⟩=>⟨v,c',d,H',he,by obtain⟨_,e⟩:=Y;cases e;rfl,r⟩) hv k
 | @Dt f sz x H R hs k=>exact alg (hT.sort f sz hs) (f:=f) (g:=0) k
 | @su f v gen t H R l hs h0 vE hv k=>exact alj (hT.su f hs) l h0 vE hv k
 | @sE f v gen t zs H R l i hs hi hv k=>exact aaQ (hT.sE f hs) l i hi hv k
 | @nil s R h=>
  intro N A ops D J n Q c w a L hs B;rw[aaB D];exact B _ c w a h rfl (Nat.le_refl _) hs (Step.refl _ _ _ _)
 | @op e r s d δ R hg h t O=>
  have E:s.H.length<=(δ.app s.H (Al.last s.H)).length:=Nq δ s.H;intro N A ops D J n Q c w a L hs B;obtain⟨o,r',rfl,ho,mU⟩:=zK D;obtain⟨s1,s2,s3,s4⟩:=yk ho;have hw:=tU hs.env s4 hg;simp only[wpListIn,hw,if_true];have s1:=Tk s1 h;refine alJ hs s1 s3 (mC.last s.H) h λc' w' V U X=>?_;rw[<-s2]at U;exact O N A r' mU J n Q c' w' V L U (B.mono X E)
 | @Bq e r s d δ R hg h t O=>
  have E:s.H.length<=(δ.app s.H (Al.last s.H)).length:=Nq δ s.H;intro N A ops D J n Q c w a L hs B;obtain⟨o,r',rfl,ho,mU⟩:=zK D;obtain⟨s1,s2,s3,s4⟩:=yk ho;have hw:=tU hs.env s4 hg;simp only[wpListIn,hw,if_true];have s1:=s1.resolve_left λW=>ajW W h;refine alL hs s1 s3 (mC.last s.H) h λc' w' V U X=>?_;rw[<-s2]at U;exact O N A r' mU J n Q c' w' V L U (B.mono X E)
 | @off e r s R hg t O=>
  intro N A ops D J n Q c w a L hs B;obtain⟨o,r',rfl,ho,mU⟩:=zK D;obtain⟨s1,s2,s3,s4⟩:=yk ho;have hw:=tU hs.env s4 hg;simp only[wpListIn,hw,bq,if_false];refine⟨λ_ _=>trivial,?_⟩;have U:=hs.next hs.fG (Step.refl _ _ _ _) s3 (v:=undef) (d:=.val undef) (.val _)
  rw[<-s2]at U;rw[<-s2];exact O N A r' mU J n Q c w _ L (by rw[s2]at U ⊢;exact U) B
 | @lH l s R S hm t O=>
  have Z:(lH S s).H.length=s.H.length:=Oi;intro N A ops D J n Q c w a L hs B;obtain⟨c',U,X,_⟩:=Uw hs S;refine O N A ops D J n Q c' w a L U ?_;rw[Z];exact B.mono X (Nat.le_refl _)
 | @EN code s R S hm t O=>
  have Z:(lH S s).H.length=s.H.length:=Oi;intro N code D J n Q c w a L hs B;obtain⟨c',U,X,_⟩:=Uw hs S;refine O N code D J n Q c' w a L U ?_;rw[Z];exact B.mono X (Nat.le_refl _)
 | @Og l s R live t O=>
  intro N A ops D J n Q c w a L hs B;exact O N A ops D J n Q c w a L ⟨hs.fG,B8 hs.env live,hs.size,hs.marks⟩ B
 | @K5 code s R live t O=>
  intro N code D J n Q c w a L hs B;exact O N code D J n Q c w a L ⟨hs.fG,B8 hs.env live,hs.size,hs.marks⟩ B
 | @Ej e r s f args fn R1 R hg D hf hp h ha t uT O=>
  intro N A ops o3 J n Q c w a L hs B;obtain⟨o,r',rfl,ho,mU⟩:=zK o3;obtain⟨s1,s2,s3,s4⟩:=yk ho;have hw:=tU hs.env s4 hg;simp only[wpListIn,hw,if_true];obtain⟨func,code,h1,W,t1,t2,t3,_⟩:=(hT.fn f fn hf).ex
  have iU:∀d Hn,Dy R1 d Hn->(if gh args then mq d&&Hn.all nz else n5 d&&Hn.all oX)=true/\after s e.dst args d Hn=some { s with env:=put s.env e.dst (j' s.H.length d),H:=s.H++Hn }:=λd Hn Y=>by obtain⟨I,U⟩:=cS.1 (ha d Hn Y);obtain⟨k1,rfl⟩:=Ze U;exact⟨k1,U⟩
  have s1:=Er s1 D;refine YV hs s1 s3 D t3 (R:=λd H'=>∃d0 Hn,Dy R1 d0 Hn/\d=j' s.H.length d0/\H'=s.H++Hn) (λvs gW=>(aj3 hs.fG gW uT λd Hn Y=>(iU d Hn Y).1).mono ?_) ?_
  .grind
  .rintro d H' c' w' V ⟨d0,Hn,Y,rfl,rfl⟩ U X;rw[<-s2]at U;exact O d0 Hn _ Y (iU d0 Hn Y).2 N A r' mU J n Q c' w' V L U (B.mono X (by simp))
 | @Ei e r s f args fn R1 R hg D hf hp h t uT O=>
  intro N A ops o3 J n Q c w a L hs B;obtain⟨o,r',rfl,ho,mU⟩:=zK o3;obtain⟨s1,s2,s3,s4⟩:=yk ho;have hw:=tU hs.env s4 hg;simp only[wpListIn,hw,if_true];obtain⟨func,code,h1,W,t1,t2,t3,_⟩:=(hT.fn f fn hf).ex;have s1:=Er s1 D;refine YV hs s1 s3 D t3 (R:=λd H'=>Dy R1 d H'/\s.H.length<=H'.length) (λvs gW=>(uT c w vs hs.fG gW).mono ?_) ?_
  .grind
  .rintro d H' c' w' V ⟨Y,E⟩ U X;rw[<-s2]at U;exact O d H' Y N A r' mU J n Q c' w' V L U (B.mono X E)
 | @Kg e r s v args rf env0 Rd Ra Rb R hg D hv Y hl ha hn hb hm t pB vV uU=>
  intro N A ops o3 J n Q c w a L hs B;obtain⟨o,r',rfl,ho,mU⟩:=zK o3;obtain⟨s1,s2,s3,s4⟩:=yk ho;have hw:=tU hs.env s4 hg;simp only[wpListIn,hw,if_true];obtain⟨M,ps,ac,bc,uv,LI,gC,O0,r5⟩:=(hT.round rf Rd Y).ex;rw[<-LI]at hl pB gC
  have s1:=s1.resolve_right λW=>by
   have:=NK W;unfold yieldOf at D;split at D
   .rename_i r4;rw[r4]at this;cases this
   .cases D
  refine alM hs s1 s3 D hv uv (by simpa using hl) (λp hp=>by simpa using List.all_eq_true.1 gC p hp) (Ra:=outs Ra) (Rb:=outs Rb) ?_ hn ?_ hm ?_
  .exact λJ n Q c w a U jY=>pB M ac O0 J n Q c w a (λh=>by cases h) U jY
  .intro s1 kI yA oJ nG J n Q c w a U jY;have:=vV s1 kI yA nG M bc r5 J n Q c w a (λh=>by simp[oJ]at h) U;simp only[aF,oJ]at this;exact this jY
  .intro q kS c' w' V yB oL E U X;rw[<-s2]at U;exact uU q kS yB oL N A r' mU J n Q c' w' V L U (B.mono X (by simpa using E))
 | @next e r s x v m since seen kk es R hg ig hx hv hm oK h0 h1 r3 sY=>
  intro N A ops o3 J n Q c w a L hs B;obtain⟨o,r',rfl,ho,mU⟩:=zK o3;obtain⟨s1,s2,s3,s4⟩:=yk ho;have hw:=tU hs.env s4 hg;simp only[wpListIn,hw,if_true];rw[ig]at s1;have s1:=s1.resolve_left λW=>ajV W;refine alI hs s1 s3 hx hv hm oK ?_ ?_
  .intro js c' w' V U X;rw[<-s2]at U;exact r3 js N A r' mU J n Q c' w' V L U (B.mono X (Nat.le_refl _))
  .intro i k d hi CE c' w' V U X;rw[<-s2]at U;exact sY i k d hi CE N A r' mU J n Q c' w' V L U (B.mono X (by simp))
 | @skip s R h=>
  intro N code D J n Q c w a L fG B;cases D;exact wpIn_skip (B _ c w a h rfl (Nat.le_refl _) fG (Step.refl _ _ _ _))
 | @Eu l s R h O=>
  intro N code D J n Q c w a L fG B
  cases D with
  | ops h=>exact wpIn_region_list (O N _ _ h J n Q c w a L fG B)
 | @seq a b s R1 R h k hs sY uS=>
  intro N code D J n Q c w a L fG B
  cases D with
  | seq h1 W=>
   refine wpIn_seq (sY N _ h1 J n _ c w a L fG λo c' w' V Y oJ E ru X=>?_)
   cases o with
   | norm I=>
    have LM:I.ik=s.ik:=oJ;refine uS I Y N _ W J n Q c' w' V (λh=>L (by rw[<-LM];exact h)) ru ?_;rw[LM];exact B.mono X E
   | exit id I=>exact B _ c' w' V (hs _ Y rfl) oJ E ru X
   | ret I=>exact B _ c' w' V (hs _ Y rfl) oJ E ru X
 | @cond c a b s x R D h O=>
  intro N code o3 J n Q c w a L fG B
  cases o3 with
  | @cond cx ca cb _ _ _ hx h1 W=>
   have hr:=iv fG.fG fG.env hx;rw[D]at hr
   have he:a.eval cx = .bool x:=by generalize a.eval cx=u at hr;cases hr;rfl
   refine wpIn_cond he ?_;cases x
   .exact O N _ W J n Q c w a L fG B
   .exact O N _ h1 J n Q c w a L fG B
 | @block id live a s R1 R h k O=>
  have Z:∀I:St,s.H.length<=I.H.length->s.H.length<=(cut s.H.length live I).H.length:=by
   intro I h1;unfold cut;split
   .exact h1
   .dsimp only;rw[MQ];simp[iG]
  have VK:∀I:St,(cut s.H.length live I).ik=I.ik:=by intro I;unfold cut;split<;>rfl
  intro N code D J n Q c w a L fG B
  cases D with
  | block h1=>
   refine wpIn_block (O N _ h1 J n _ c w a L fG λo c' w' V Y oJ E ru X=>?_);have nD:=k o Y
   cases o with
   | norm I=>
    obtain⟨c2,mK,sj,_⟩:=zL ru E live;exact B (.norm (cut s.H.length live I)) c2 w' V nD ((VK I).trans oJ) (Z I E) mK (X.trans sj (Nat.le_refl _))
   | exit yX I=>
    by_cases Pd:yX=id
    .subst Pd;obtain⟨c2,mK,sj,_⟩:=zL ru E live;simp only[lh,if_true]at nD;have:=B (.norm (cut s.H.length live I)) c2 w' V nD ((VK I).trans oJ) (Z I E) mK (X.trans sj (Nat.le_refl _));simp only[Out.ex,Exit.inBlock,if_true]at this ⊢;exact this
    .simp only[lh,if_neg Pd]at nD;have:=B _ c' w' V nD oJ E ru X;simp only[Out.ex,Exit.inBlock,if_neg Pd]at this ⊢;exact this
   | ret I=>exact B _ c' w' V nD oJ E ru X
 | @G2 s R Y=>
  exact⟨[],s,Y,Nat.le_refl _,rfl,rfl,λK k0 hK=>⟨[],rfl,rfl,rfl,.nil⟩⟩
 | @G4 e r s d δ R1 R hg h t k O=>
  obtain⟨rs,I,rX,i1,i2,i4,i3⟩:=O;refine⟨_,I,k _ _ rX,Nat.le_trans (Nq δ s.H) i1,i2,i4,λK k0 hK=>?_⟩;obtain⟨z,e1,e2,e3,wT⟩:=i3 K (k0+1) hK;obtain⟨a1,a2⟩:=Nr (Zl h) K (Nat.le_trans i1 hK);refine⟨⟨k0,e,s.H.length,⟨gA s.env.get s.H e.op,jy s.H.length δ⟩⟩::z,by simp[e1],by simp[e2],by simp[e3,cG],?_⟩
  have hE:Ef (CC P G) s.env.get (s.H++room (K-s.H.length)) e s.H.length ⟨gA s.env.get s.H e.op,jy s.H.length δ⟩ d δ:=by have:=Ef.op (C:=CC P G) (f:=s.env.get) (H:=s.H++room (K-s.H.length)) (e:=e) (n:=s.H.length) hg (by rw[Zk];exact h) a2;rwa [K7]at this
  refine .cons hE ?_;rw[a1];have hp:(put s.env e.dst d).get=mf s.env.get e.dst d:=Gq _ _ _;rw[<-hp];exact wT
 | @G3 e r s R1 R hg t k O=>
  obtain⟨rs,I,rX,i1,i2,i4,i3⟩:=O;refine⟨_,I,k _ _ rX,i1,i2,i4,λK k0 hK=>?_⟩;obtain⟨z,e1,e2,e3,wT⟩:=i3 K (k0+1) hK;refine⟨⟨k0,e,0,⟨[],[]⟩⟩::z,by simp[e1],by simp[e2],by simp[e3,cG],.cons (.off hg) ?_⟩;have hp:(put s.env e.dst (.val undef)).get=mf s.env.get e.dst (.val undef):=Gq _ _ _;rw[<-hp];exact wT
 | @GZ e r s f args fn d R0 R1 R hg D hf hp h h0 hr t k uT O=>
  obtain⟨rs,I,rX,i1,i2,i4,i3⟩:=O;refine⟨_,I,k _ _ rX,i1,i2,i4,λK k0 hK=>?_⟩;obtain⟨z,e1,e2,e3,wT⟩:=i3 K (k0+1) hK;refine⟨⟨k0,e,0,⟨gA s.env.get s.H e.op,[]⟩⟩::z,by simp[e1],by simp[e2],by simp[e3,cG],?_⟩;obtain⟨func,code,h1,W,t1,t2,t3,_⟩:=(hT.fn f fn hf).ex
  have hE:Ef (CC P G) s.env.get (s.H++room (K-s.H.length)) e 0 ⟨gA s.env.get s.H e.op,[]⟩ d .no:=by have e0:args.map (fL (λ_=>none) (s.H++room (K-s.H.length)) 40)=args.map (fL (λ_=>none) s.H 40):=ak λd _=>(Gw 40 d).2;have:=Ef.call (C:=CC P G) (f:=s.env.get) (H:=s.H++room (K-s.H.length)) (e:=e) (n:=0) hg D (by rw[e0];exact⟨t3,uT.one h0⟩) hr;rwa [K7]at this
  refine .cons hE ?_;have hp:(put s.env e.dst d).get=mf s.env.get e.dst d:=Gq _ _ _;rw[<-hp];exact wT
 | @G0 e r s f wE args fn d ob R0 R1 R hg ig ha hf hp h h0 hr t k uT O=>
  obtain⟨rs,I,rX,i1,i2,i4,i3⟩:=O;have E:s.H.length<=(s.H ++ [ob]).length:=by simp
  refine⟨_,I,k _ _ rX,Nat.le_trans E i1,i2,i4,λK k0 hK=>?_⟩;obtain⟨z,e1,e2,e3,wT⟩:=i3 K (k0+1) hK;have PG:Safe s.H (.new ob):=trivial;obtain⟨a1,a2⟩:=Nr (δ:=.new ob) PG K (by have:(s.H ++ [ob]).length<=K:=Nat.le_trans i1 hK;simpa[Dl.app,Al.last]using this);refine⟨⟨k0,e,s.H.length,⟨gA s.env.get s.H e.op,[(s.H.length,none)]⟩⟩::z,by simp[e1],by simp[e2],by simp[e3,cG],?_⟩;obtain⟨func,code,h1,W,t1,t2,t3,_⟩:=(hT.fn f fn hf).ex
  have hE:Ef (CC P G) s.env.get (s.H++room (K-s.H.length)) e s.H.length ⟨gA s.env.get s.H e.op,[(s.H.length,none)]⟩ (j' s.H.length d) (.new ob):=by have e0:args.map (fL (λ_=>none) (s.H++room (K-s.H.length)) 40)=args.map (fL (λ_=>none) s.H 40):=ak λd _=>(Gw 40 d).2;have:=Ef.callN (C:=CC P G) (f:=s.env.get) (H:=s.H++room (K-s.H.length)) (e:=e) (n:=s.H.length) hg ig ha (by rw[e0];exact⟨t3,uT.one h0⟩) hr a2;rwa [K7]at this
  refine .cons hE ?_;have Nk:kQ s.H.length (.new ob) (s.H++room (K-s.H.length))=(s.H ++ [ob])++room (K-(s.H ++ [ob]).length):=a1;show Tx (CC P G) (mf s.env.get e.dst (j' s.H.length d)) (kQ s.H.length (.new ob) (s.H++room (K-s.H.length))) z _ _;rw[Nk];have hp:(put s.env e.dst (j' s.H.length d)).get=mf s.env.get e.dst (j' s.H.length d):=Gq _ _ _;rw[<-hp];exact wT
 | @G1 e r s f wE args fn d v R0 R1 R hg ig ha hf hp hS hv gw gu h h0 hr t k uT O=>
  obtain⟨rs,I,rX,i1,i2,i4,i3⟩:=O;have E:s.H.length<=(s.H.set v .dead).length:=by simp
  refine⟨_,I,k _ _ rX,Nat.le_trans E i1,i2,i4,λK k0 hK=>?_⟩;obtain⟨z,e1,e2,e3,wT⟩:=i3 K (k0+1) hK
  have iM:v<s.H.length:=by
   unfold rowsOf at gw;split at gw
   .grind
   .cases gw
  have PG:Safe s.H (.obj v .dead):=iM;obtain⟨a1,a2⟩:=Nr (δ:=.obj v .dead) PG K (by have:(s.H.set v .dead).length<=K:=Nat.le_trans i1 hK;simpa[Dl.app]using this);refine⟨⟨k0,e,0,⟨gA s.env.get s.H e.op,[(v,none)]⟩⟩::z,by simp[e1],by simp[e2],by simp[e3,cG],?_⟩;obtain⟨func,code,h1,W,t1,t2,t3,_⟩:=(hT.fn f fn hf).ex
  have hE:Ef (CC P G) s.env.get (s.H++room (K-s.H.length)) e 0 ⟨gA s.env.get s.H e.op,[(v,none)]⟩ d (.obj v .dead):=by have e0:args.map (fL (λ_=>none) (s.H++room (K-s.H.length)) 40)=args.map (fL (λ_=>none) s.H 40):=ak λd _=>(Gw 40 d).2;have e4:args.map (gZ (s.H++room (K-s.H.length)) 40)=args.map (gZ s.H 40):=ak λd _=>(Gw 40 d).1;have:=Ef.zI (C:=CC P G) (f:=s.env.get) (H:=s.H++room (K-s.H.length)) (e:=e) (n:=0) (v:=v) hg ig ha (by rw[e4];exact hS) (by rw[e4];exact hv) (by rw[Q7];exact gw) (by rw[e0];exact⟨t3,uT.one h0⟩) (by rw[e0];exact gu) hr;rwa [K7]at this
  refine .cons hE ?_;have Nk:kQ 0 (.obj v .dead) (s.H++room (K-s.H.length))=(s.H.set v .dead)++room (K-(s.H.set v .dead).length):=a1;show Tx (CC P G) (mf s.env.get e.dst d) (kQ 0 (.obj v .dead) (s.H++room (K-s.H.length))) z _ _;rw[Nk];have hp:(put s.env e.dst d).get=mf s.env.get e.dst d:=Gq _ _ _;rw[<-hp];exact wT
 | @lF jk l s R1 R t hp O=>
  obtain⟨rs,I,rX,i1,i2,i4,i3⟩:=O;obtain⟨hp,Ai⟩:=hp rs I rX;intro N code D J n Q c w a L fG B
  cases D with
  | @lF _ _ id A ord wY he ho nU=>
   obtain⟨z,e1,e2,e3,Ak⟩:=i3 I.H.length 0 (Nat.le_refl _);have Z:z.length=l.length:=by rw[<-e1];simp
   have gu:∀(ops:List Oper) (l:List gI),oU P G N A ops=some l->ops.length=l.length/\∀(i:Nat) (o:Oper) (e:gI),ops[i]? = some o->l[i]? = some e->vw P G N A o=some e:=by
    intro ops
    induction ops with
    | nil=>intro l h;cases h;exact⟨rfl,λi o e h=>by simp at h⟩
    | cons o r P7=>
     intro l h;obtain⟨e,l',rfl,h1,W⟩:=Ew h;obtain⟨q1,q2⟩:=P7 l' W;refine⟨by simp[q1],λi o' e' ho he=>?_⟩
     cases i with
     | zero=>simp at ho he;subst ho;subst he;exact h1
     | succ i=>exact q2 i o' e' (by simpa using ho) (by simpa using he)
   obtain⟨q1,q2⟩:=gu _ _ wY;have hA:A.size=l.length:=by rw[<-q1];simp
   have iZ:∀(i:Nat) (it:mD),z[i]? = some it->it.k=i/\l[i]? = some it.e/\rs[i]? = some it.rc:=by
    intro i it hi;have gC:=(ae.1 hi).1;refine⟨?_,by rw[<-e1];simp[hi],by rw[<-e2];simp[hi]⟩;have:(z.map (·.k))[i]? = some it.k:=by simp[hi]
    rw[e3,List.getElem?_range' (by omega)]at this;simpa using this.symm
   refine wpIn_region_any hM ?_;have pU:gf G c s.H { w with drawn:=w.drawn+1 }:=fG.fG.oY (jJ.drew w);have FD:Step s.H.length c s.H w c s.H { w with drawn:=w.drawn+1 }:=Bv _ (jJ.drew w)
   have PJ:SX G N c { w with drawn:=w.drawn+1 } s.env.get (s.H++room (I.H.length-s.H.length)) s.marks a:=
    ⟨X7 pU _,kq.carry (λ_ _ h=>h.pc fG.fG.toHeapOK FD) fG.env,fG.size,fG.marks⟩
   refine SA (C:=CC P G) (λg args d Hn h=>h) he ho A.size z _ c _ _ _ a (by omega) ?_ PJ Ak ?_ ?_ λc' w' V U X=>?_
   .refine⟨by simp,λj hj=>?_,?_,λit jR=>?_,λi hi hl=>?_⟩
    .refine⟨λ_=>⟨z[j]'(by omega),bK _,(iZ j _ (List.getElem?_eq_getElem _)).1⟩,λ_=>by simp[hj]⟩
    .rw[bA];intro i j hi hj AB;rw[(iZ i _ (List.getElem?_eq_getElem hi)).1,(iZ j _ (List.getElem?_eq_getElem hj)).1];exact AB
    .obtain⟨i,hi⟩:=aA.1 jR;have gC:=(ae.1 hi).1;rw[(iZ i it hi).1];omega
    .simp_all
   .intro it jR;obtain⟨i,hi⟩:=aA.1 jR;have gC:=(ae.1 hi).1;obtain⟨k1,k2,k3⟩:=iZ i it hi;refine⟨A[i]'(by omega),by rw[k1];simp,q2 i _ _ (by simp) k2⟩
   .intro p xe q hq yN;obtain⟨i,hi⟩:=aA.1 xe;obtain⟨j,hj⟩:=aA.1 hq;obtain⟨p1,p2,p3⟩:=iZ i p hi;obtain⟨QQ,QS,q3⟩:=iZ j q hj;rw[p1,QQ]at yN ⊢;have gC:=(ae.1 hj).1;have:=List.all_eq_true.1 (List.all_eq_true.1 nU j (a8.2 (by omega))) i (a8.2 yN);simp only[p2,QS,bY,Bool.and_eq_true,de]at this;rcases this with h|⟨h1,W⟩
    .exact .inl h
    .refine .inr ⟨h1,?_⟩;rcases W with W|W
     .have:=List.all_eq_true.1 hp (i,j) W;simp only[p3,q3]at this;exact this
     .obtain⟨_,_,_,_,E1⟩:=Ak.each p xe;obtain⟨_,_,_,_,E2⟩:=Ak.each q hq;exact YC E1 E2 W
   .simp only[bS,room,List.replicate_zero,ax]at U X;refine B _ c' w' V Ai i4 i1 ⟨U.fG,U.env,U.size,by show ri c' I.marks _;rw[i2];exact U.marks⟩ ?_;have h1:=FD.trans (X8 (c:=c) (w:={ w with drawn:=w.drawn+1 }) (H:=s.H) (I.H.length-s.H.length) s.H.length) (Nat.le_refl _);exact h1.trans X (by simp)
 | @mj jk l es s R1 R t hp k O xk=>
  obtain⟨rs,I,rX,i1,i2,i4,i3⟩:=O;have hp:=hp rs I rX;have xk:=xk rs I rX;intro N code D J n Q c w a L fG B
  cases D with
  | @mj _ _ _ id A ord wY he ho nU yI=>
   obtain⟨z,e1,e2,e3,Ak⟩:=i3 I.H.length 0 (Nat.le_refl _);have Z:z.length=l.length:=by rw[<-e1];simp
   obtain⟨o1,o2,OG,c1,c2⟩:=Tp wY;obtain⟨q1,q2⟩:=Tq c1;obtain⟨q3,_⟩:=Tq c2;have hA:A.size=l.length+es.length:=by rw[<-cU,OG,au,q1,q3]
   have yz:∀i,i<l.length->A[i]? = o1[i]? := λi hi=>by rw[<-br,OG,ah (by omega)]
   have r7:∀i,A[l.length+i]? = o2[i]? := λi=>by rw[<-br,OG,ai (by omega)];congr 1;omega
   have iZ:∀(i:Nat) (it:mD),z[i]? = some it->it.k=i/\l[i]? = some it.e/\rs[i]? = some it.rc/\i<l.length:=by
    intro i it hi;have gC:=(ae.1 hi).1;refine⟨?_,by rw[<-e1];simp[hi],by rw[<-e2];simp[hi],by omega⟩;have:(z.map (·.k))[i]? = some it.k:=by simp[hi]
    rw[e3,List.getElem?_range' (by omega)]at this;simpa using this.symm
   refine wpIn_region_any hM ?_;have pU:gf G c s.H { w with drawn:=w.drawn+1 }:=fG.fG.oY (jJ.drew w);have FD:Step s.H.length c s.H w c s.H { w with drawn:=w.drawn+1 }:=Bv _ (jJ.drew w)
   have PJ:SX G N c { w with drawn:=w.drawn+1 } s.env.get (s.H++room (I.H.length-s.H.length)) s.marks a:=
    ⟨X7 pU _,kq.carry (λ_ _ h=>h.pc fG.fG.toHeapOK FD) fG.env,fG.size,fG.marks⟩
   have Pn:∀q∈(es.zipIdx l.length).map (λp=>(⟨p.2,p.1,0,⟨[],[]⟩⟩:mD)),l.length<=q.k/\q.k<l.length+es.length:=λq hq=>by grind
   have Fg:((es.zipIdx l.length).map (λp=>(⟨p.2,p.1,0,⟨[],[]⟩⟩:mD))).length=es.length:=by simp
   rw[show A.size=z.length+((es.zipIdx l.length).map (λp=>(⟨p.2,p.1,0,⟨[],[]⟩⟩:mD))).length by rw[Fg];omega];refine SB (C:=CC P G) (λg args d Hn h=>h) he ho (lasts:=(es.zipIdx l.length).map λp=>⟨p.2,p.1,0,⟨[],[]⟩⟩) (ops:=o2) (λq hq k B=>yI q.k (Pn q hq).1 (by simp;exact(Pn q hq).2) k B) ?_ z.length z _ c _ _ _ a rfl ?_ PJ Ak ?_ ?_ λc' w' V U X=>?_
   .refine bN λi=>?_;simp only[List.map_map,ar,List.getElem?_zipIdx]
    cases h:es[i]? with
    | none=>
     have:es.length<=i:=by simpa using h
     simp[b6 (l:=o2) (i:=i) (by omega)]
    | some e=>
     have:=(ae.1 h).1;simp[r7,List.getElem?_eq_getElem (l:=o2) (i:=i) (by omega)]
   .refine⟨by simp;omega,λj hj=>?_,?_,λit jR=>?_,λi hi hl=>?_⟩
    .refine⟨λ_=>?_,λ_=>by rw[Fg];simp[show j<z.length+es.length by omega]⟩
     by_cases mJ:j<l.length
     .exact⟨z[j]'(by omega),bz _ (bK _),(iZ j _ (List.getElem?_eq_getElem _)).1⟩
     .refine⟨⟨j,es[j-l.length]'(by omega),0,⟨[],[]⟩⟩,bP _ (aq.2 ⟨(es[j-l.length]'(by omega),j),?_,rfl⟩),rfl⟩;rw[List.mem_zipIdx_iff_le_and_getElem?_sub];exact⟨by omega,by simp⟩
    .refine bI.2 ⟨?_,?_,λp xe q hq=>?_⟩
     .rw[bA];intro i j hi hj AB;rw[(iZ i _ (List.getElem?_eq_getElem hi)).1,(iZ j _ (List.getElem?_eq_getElem hj)).1];exact AB
     .rw[bA];intro i j hi hj AB;simp;omega
     .obtain⟨i,hi⟩:=aA.1 xe;have h1:=iZ i p hi;have W:=Pn q hq;omega
    .rcases List.mem_append.1 jR with jR|jR
     .obtain⟨i,hi⟩:=aA.1 jR;have:=iZ i it hi;omega
     .grind
    .simp_all
   .intro it jR;obtain⟨i,hi⟩:=aA.1 jR;obtain⟨k1,k2,k3,k4⟩:=iZ i it hi;have h1:o1[i]? = some (o1[i]'(by omega)):=List.getElem?_eq_getElem _;exact⟨o1[i]'(by omega),by rw[k1,yz i k4,h1],q2 i _ _ h1 k2⟩
   .intro p xe q hq yN;obtain⟨i,hi⟩:=aA.1 xe;obtain⟨j,hj⟩:=aA.1 hq;obtain⟨p1,p2,p3,p4⟩:=iZ i p hi;obtain⟨QQ,QS,q3,q4⟩:=iZ j q hj;rw[p1,QQ]at yN ⊢;have:=List.all_eq_true.1 (List.all_eq_true.1 nU j (a8.2 (by simp;omega))) i (a8.2 yN);simp only[ah p4,ah q4,p2,QS,bY,Bool.and_eq_true,de]at this;rcases this with h|⟨h1,W⟩
    .exact .inl h
    .refine .inr ⟨h1,?_⟩;rcases W with W|W
     .have:=List.all_eq_true.1 hp (i,j) W;simp only[p3,q3]at this;exact this
     .obtain⟨_,_,_,_,E1⟩:=Ak.each p xe;obtain⟨_,_,_,_,E2⟩:=Ak.each q hq;exact YC E1 E2 W
   .simp only[bS,room,List.replicate_zero,ax]at U X;have h1:=FD.trans (X8 (c:=c) (w:={ w with drawn:=w.drawn+1 }) (H:=s.H) (I.H.length-s.H.length) s.H.length) (Nat.le_refl _);have W:=h1.trans X (by simp);exact xk N A o2 c2 J n Q c' w' V (by rw[i4];exact L) ⟨U.fG,U.env,U.size,by show ri c' I.marks _;rw[i2];exact U.marks⟩ (by rw[i4];exact B.mono W i1)
 | @loop live a s R h O=>
  intro N code D J n Q c w a L fG B
  cases D with
  | loop h1=>exact alH (O (Nat.le_refl _) N _ h1 J n Q c w a L ⟨fG.fG,B8 fG.env live,fG.size,fG.marks⟩ B)
 | @y5 n0 live a s R1 R h k hs sY uS=>
  intro hn N code D J n Q c w a L fG B;refine aeN (sY N _ D J n _ c w a L fG λo c' w' V Y oJ E ru X=>?_)
  cases o with
  | norm I=>
   have Vp:n0<=I.H.length:=Nat.le_trans hn E
   have r9:n0<=(cut n0 live I).H.length:=by
    unfold cut;split
    .exact Vp
    .dsimp only;rw[MQ];simp[iG]
   have Fx:(cut n0 live I).ik=s.ik:=by have LM:I.ik=s.ik:=oJ;unfold cut;split<;>exact LM
   obtain⟨c2,mK,sj,_⟩:=zL ru Vp live;refine uS I Y r9 N _ D J n Q c2 w' V (λh=>L (by rw[<-Fx];exact h)) mK ?_;rw[Fx];exact B.mono ((X.weaken hn).trans sj (Nat.le_refl _)) (Nat.le_refl _)
  | exit id I=>exact B _ c' w' V (hs _ Y rfl) oJ (Nat.le_trans hn E) ru (X.weaken hn)
  | ret I=>exact B _ c' w' V (hs _ Y rfl) oJ (Nat.le_trans hn E) ru (X.weaken hn)
 | @nv rf live x s f first cap fn R1 R oJ hx hf hp h k O=>
  intro N code D J n Q c w a L fG B;have t':=L oJ;subst t'
  cases D with
  | nv CU uv=>
   obtain⟨func,code,h1,W,t1,t2,t3,_⟩:=(hT.fn f fn hf).ex;exact alK fG CU hx t3 uv (live:=live) (R1:=Dy R1) (R:=outs R) O k B
 | @exit id s R h=>
  intro N code D J n Q c w a L fG B;cases D;exact wpIn_exit (B _ c w a h rfl (Nat.le_refl _) fG (Step.refl _ _ _ _))
 | @ret s R h=>
  intro N code D J n Q c w a L fG B;cases D;exact wpIn_ret (B _ c w a h rfl (Nat.le_refl _) fG (Step.refl _ _ _ _))
 | @call f args H fn R1 R own hf hl h k O=>
  intro c w vs fG gW;obtain⟨func,code,hs,U,t1,t2,t3,t7,t4,t5,t6⟩:=(hT.fn f fn hf).ex;have Fx:=aka hT.rt t1 t2 t7;rw[t5]at Fx;refine callsIn_wide (n:=0) |>.1 (callsIn_of_wp_marks (F:=FW none) t1 t2 trivial (O fn.ntmps code (Nw Fx t4) none 0 _ c w _ (λ_=>rfl) ⟨fG,aa2 gW _,?_,.nil⟩ ?_))
  .simp;omega
  .intro o c' w' V Y oJ E l8 X;obtain⟨d,H',km,r6⟩:=k o Y
   have g9:∀s:St,o.st=s->∀H1,kill s.marks s.H=some H1->∀d0,AL.results fn { s with H:=H1 }=some d0->leave own H.length H1 d0=(d,H') ->
     LeavesInM (FW none) 0 P func V.tmps (λe w'=>∃v c' d H',e = .returned v/\Dy R d H'/\H.length<=H'.length/\gf G c' H' w'/\fF c' w' v d/\Step H.length c H w c' H' w') V.defers .returning w':=by
    rintro s rfl H1 adq d0 CN ads;refine aeB l8.marks l8.fG adq λw1 q1 q2 q3=>?_;have LN:kH G fn.ntmps c' w1 { o.st with H:=H1,marks:=[] } { V with defers:=[] }:=⟨q1,λj=>(l8.env j).pc l8.fG.toHeapOK q2,l8.size,.nil⟩;obtain⟨v,hv,FG⟩:=akm LN t6 (d:=d0) (by rw[<-CN];exact akl { o.st with H:=H1 } []);have r8:H.length<=H1.length:=by rw[q3];exact E
    obtain⟨c2,k1,k2,k3,k4⟩:=y4 q1 r8 own FG;rw[ads]at k1 k2 k3 k4;exact⟨v,hv,v,c2,d,H',rfl,r6,k4,k1,k2,(X.trans q2 E).trans k3 (Nat.le_refl _)⟩
   have qj:∀s:St,finish fn own H.length (.norm s)=some (d,H')->∃H1,kill s.marks s.H=some H1/\∃d0,AL.results fn { s with H:=H1 }=some d0/\leave own H.length H1 d0=(d,H'):=by
    intro s hf;simp only[finish]at hf;split at hf
    .grind
    .cases hf
   cases o with
   | norm s=>
    obtain⟨H1,q1,d0,q2,q3⟩:=qj s km;exact g9 s rfl H1 q1 d0 q2 q3
   | ret s=>
    obtain⟨H1,q1,d0,q2,q3⟩:=qj s km;exact g9 s rfl H1 q1 d0 q2 q3
   | exit id s=>cases km
end
end Go.AL
namespace Go.AL
open Go
def KR:Value->Value->Bool
 | .int k a,.int k' b=>decide (k=k')&&decide (a=b)
 | .bool a,.bool b=>a == b
 | .string a,.string b=>decide (a.data.toList=b.data.toList)
 | .nilFunc,.nilFunc=>true
 | .tuple a,.tuple b=>a.toList.isEmpty&&b.toList.isEmpty
 | _,_=>false
mutual
def ox:D->D->Bool
 | .any,.any=>true
 | .val a,.val b=>KR a b
 | .agg a,.agg b=>sG a b
 | .tup a,.tup b=>sG a b
 | .sl n a,.sl m b=>decide (n=m)&&B9 a b
 | .fJ,.fJ=>true
 | .fy a b c d e,.fy a' b' c' d' e'=>decide (a=a')&&decide (b=b')&&decide (c=c')&&decide (d=d')&&decide (e=e')
 | .ptr a b c,.ptr a' b' c'=>decide (a=a')&&decide (b=b')&&decide (c=c')
 | .fV a,.fV b=>sG a b
 | .gg a,.gg b=>decide (a=b)
 | .iH a,.iH b=>decide (a=b)
 | .fn (.func f) a b,.fn (.func f') a' b'=>decide (f=f')&&sG a a'&&sG b b'
 | _,_=>false
def sG:List D->List D->Bool
 | [],[]=>true
 | a::l,b::m=>ox a b&&sG l m
 | _,_=>false
def B9:List (List D)->List (List D)->Bool
 | [],[]=>true
 | a::l,b::m=>sG a b&&B9 l m
 | _,_=>false
end
def zR:Env->Env->Bool
 | [],[]=>true
 | (i,a)::l,(j,b)::m=>decide (i=j)&&ox a b&&zR l m
 | _,_=>false
def B':List (Value×D)->List (Value×D)->Bool
 | [],[]=>true
 | (i,a)::l,(j,b)::m=>KR i j&&ox a b&&B' l m
 | _,_=>false
def NZ:Ob->Ob->Bool
 | .row t g a,.row t' g' b=>decide (t=t')&&decide (g=g')&&sG a b
 | .map k a,.map k' b=>decide (k=k')&&B' a b
 | .gV r e s,.gV r' e' s'=>decide (r=r')&&zR e e'&&decide (s=s')
 | .rF a p,.rF b q=>decide (a.data.toList=b.data.toList)&&decide (p=q)
 | .jb m s l,.jb m' s' l'=>ox m m'&&decide (s=s')&&decide (l=l')
 | .kD,.kD=>true
 | .dead,.dead=>true
 | .lu,.lu=>true
 | _,_=>false
def zS:U->U->Bool
 | [],[]=>true
 | a::l,b::m=>NZ a b&&zS l m
 | _,_=>false
def EF(s t:St):Bool:=zR s.env t.env&&zS s.H t.H&&decide (s.marks=t.marks)&&(s.ik == t.ik)
def N0:Out->Out->Bool
 | .norm s,.norm t=>EF s t
 | .exit i s,.exit j t=>decide (i=j)&&EF s t
 | .ret s,.ret t=>EF s t
 | _,_=>false
def N1(a b:D×U):Bool:=ox a.1 b.1&&zS a.2 b.2
def once{α:Type}(b:α->α->Bool):List α->List α
 | []=>[]
 | [a]=>[a]
 | a::l=>let m:=once b l;if m.any (b a)then m else a::m
def rM{α b:Type}:List α->(α->Option (List b))->Option (List b)
 | [],_=>some []
 | [a],f=>f a
 | a::l,f=>match f a,rM l f with
  | some x,some y=>some (x++y)
  | _,_=>none
abbrev xK:=FuncId->List D->U->Option (List (D×U))
abbrev BA:=IR->St->Option (List Out)
def refsOf(s:St)(args:List D):List Nat:=dedup (args.map (gZ s.H 40)).flatten
def ME(cl:xK)(e:gI)(f:FuncId)(s:St):Option (List St):=
 match kb s.env.get e.op with
 | none=>none
 | some (f',args)=>if f'=f then(match cl f (args.map (fL (λ_=>none) s.H 40)) []with
  | some l=>rM l λp=>match after s e.dst args p.1 p.2 with
   | some a=>some [a]
   | none=>none
  | none=>none)else none
def Q8(T:ia)(cl:xK)(e:gI)(s:St):Option (List St):=
 match kb s.env.get e.op with
 | none=>none
 | some (f,args)=>match T.fn f with
  | none=>none
  | some fn=>
   match fn.full with
   | true=>match cl f args s.H with
    | some l=>some (l.map λp=>{ s with env:=put s.env e.dst p.1,H:=p.2 })
    | none=>none
   | false=>if fn.fz&&s.marks.isEmpty && !gh args then ME cl e f (lH (refsOf s args) s)else ME cl e f s
def Rf(T:ia)(rd:BA)(e:gI)(s:St)(v:Nat)(args:List D):Option (List St):=
 match s.H[v]? with
 | some (.gV rf env0 .ready)=>match T.round rf with
  | some Rd=>if args.length=Rd.params.length then
    match rd Rd.a { env:=tf Rd.params args env0,H:=s.H,ik:=true }with
    | some b=>match rM b λo=>match o with
      | .norm s1=>match s1.H[v]? with
       | some (.gV XX kI .ready)=>if XX=rf then rd Rd.b { s1 with H:=s1.H.set v (.gV rf kI .busy) }else none
       | _=>none
      | _=>none with
     | some a=>rM a λo=>match o.st.H[v]? with
      | some (.gV rf2 kS .busy)=>if rf2=rf then some [{ s with env:=put s.env e.dst (.b !o.stop),H:=o.st.H.set v (.gV rf kS o.zi) }]else none
      | _=>none
     | none=>none
    | none=>none
   else none
  | none=>none
 | _=>none
def Re(e:gI)(s:St)(x:X):Option (List St):=
 match ev s.env.get x with
 | .ptr v 0 0=>match s.H[v]? with
  | some (.jb (.gg m) since seen)=>match s.H[m]? with
   | some (.map _ es)=>if es.length=since then
     let left:=(List.range es.length).filter λi => !seen.contains i
     if left.isEmpty then some [{ s with env:=put s.env e.dst (.tup [.b false]) }]else
      some (left.filterMap λi=>match es[i]? with
       | some (k,d)=>some { s with env:=put s.env e.dst (.tup [.b true,rz k,d]),H:=s.H.set v (.jb (.gg m) since (seen ++ [i])) }
       | none=>none)
    else none
   | _=>none
  | _=>none
 | _=>none
def wg(T:ia)(cl:xK)(rd:BA):List gI->St->Option (List St)
 | [],s=>some [s]
 | e::r,s=>match guardOf s.env.get e.guard with
  | none=>none
  | some false=>wg T cl rd r { s with env:=put s.env e.dst (.val undef) }
  | some true=>match gv s.env.get s.H s.H.length e.op with
   | some (d,δ)=>wg T cl rd r { s with env:=put s.env e.dst d,H:=δ.app s.H (Al.last s.H) }
   | none=>match l5 s.env.get s.H s.H.length e.op with
    | some (d,δ)=>wg T cl rd r { s with env:=put s.env e.dst d,H:=δ.app s.H (Al.last s.H) }
    | none=>match e.op with
     | .nextM x=>match Re e s x with
      | some l=>rM l λa=>wg T cl rd r a
      | none=>none
     | _=>match yieldOf s.env.get e.op with
      | some (v,args)=>match Rf T rd e s v args with
       | some l=>rM l λa=>wg T cl rd r a
       | none=>none
      | none=>match kb s.env.get e.op with
       | none=>none
       | some _=>match Q8 T cl e s with
        | some l=>rM l λa=>wg T cl rd r a
        | none=>none
def isN:iu->Bool
 | .callN _ _=>true
 | _=>false
def xE(T:ia)(cl:xK)(st:Bool):List gI->St->Option (List Rc×St)
 | [],s=>some ([],s)
 | e::r,s=>match guardOf s.env.get e.guard with
  | none=>none
  | some false=>match xE T cl st r { s with env:=put s.env e.dst (.val undef) }with
   | some (rs,s')=>some (⟨[],[]⟩::rs,s')
   | none=>none
  | some true=>match gv s.env.get s.H s.H.length e.op with
   | some (d,δ)=>match xE T cl st r { s with env:=put s.env e.dst d,H:=δ.app s.H (Al.last s.H) }with
    | some (rs,s')=>some (⟨gA s.env.get s.H e.op,jy s.H.length δ⟩::rs,s')
    | none=>none
   | none=>match kb s.env.get e.op with
    | none=>none
    | some (f,args)=>match T.fn f with
     | none=>none
     | some fn=>if fn.full||(st&&fn.fz && !gh args && !isN e.op)then none else match cl f (args.map (fL (λ_=>none) s.H 40)) []with
      | some [(d,[])]=>if (if gh args then closed d else flat d)then(match xE T cl st r { s with env:=put s.env e.dst d }with
       | some (rs,s')=>some (⟨gA s.env.get s.H e.op,[]⟩::rs,s')
       | none=>none)else(match e.op with
       | .callN _ _=>match (args.map (gZ s.H 40)).flatten with
        | v::l=>if (l.all λu=>decide (u=v))&&(rowsOf s.H v).isSome&&gh (args.map (fL (λ_=>none) s.H 40))&&closed d then(match xE T cl st r { s with env:=put s.env e.dst d,H:=s.H.set v .dead }with
         | some (rs,s')=>some (⟨gA s.env.get s.H e.op,[(v,none)]⟩::rs,s')
         | none=>none)else none
        | []=>none
       | _=>none)
      | some [(d,[ob])]=>match e.op with
       | .callN _ _=>if (if gh args then mq d&&nz ob else n5 d&&oX ob)then(match xE T cl st r { s with env:=put s.env e.dst (j' s.H.length d),H:=s.H ++ [ob] }with
        | some (rs,s')=>some (⟨gA s.env.get s.H e.op,[(s.H.length,none)]⟩::rs,s')
        | none=>none)else none
       | _=>none
      | _=>none
def qJ(T:ia)(cl:xK)(d:Nat->List Nat->IR->St->Option (List Out))(rd:BA):IR->St->Option (List Out)
 | .skip,s=>some [.norm s]
 | .ops l,s=>match wg T cl rd l s with
  | some l=>some (l.map .norm)
  | none=>none
 | .lF jk l,s=>match xE T cl true l s with
  | some (rs,e)=>if uZ jk rs then some [.norm e]else none
  | none=>if s.marks.isEmpty then(match xE T cl false l (lH (List.range s.H.length) s)with
   | some (rs,e)=>if uZ jk rs then some [.norm e]else none
   | none=>none)else none
 | .mj ..,_=>none
 | .seq a b,s=>match qJ T cl d rd a s with
  | some l=>rM l λo=>match o with
   | .norm e=>qJ T cl d rd b e
   | o=>some [o]
  | none=>none
 | .cond c a b,s=>match ev s.env.get c with
  | .val (.bool true)=>qJ T cl d rd a s
  | .val (.bool false)=>qJ T cl d rd b s
  | _=>none
 | .block id live a,s=>match qJ T cl d rd a s with
  | some l=>some (once N0 (l.map (lh id s.H.length live)))
  | none=>none
 | .loop live a,s=>d s.H.length live a { s with env:=forget live s.env }
 | .nv rf live x,s=>if s.ik then none else match ev s.env.get x with
  | .fn (.func f) first cap=>match T.fn f with
   | some fn=>if fn.full then
     match cl f (first ++ [.iH (s.H.length+1)]++cap) (s.H ++ [.kD,.gV rf (forget live s.env) .ready])with
     | some l=>rM l λp=>match p.2[s.H.length+1]? with
      | some (.gV XW _ st)=>if XW=rf then(match Be { s with H:=p.2.set (s.H.length+1) .dead,marks:=s.H.length::s.marks } st with
       | some o=>some [o]
       | none=>none)else none
      | _=>none
     | none=>none
    else none
   | none=>none
  | _=>none
 | .exit id,s=>some [.exit id s]
 | .ret,s=>some [.ret s]
 | .bad,_=>none
 | .fz _ _,_=>none
 | .uo _ _ _,_=>none
abbrev vj:=List (FuncId×List D×List (D×U))
def Gu:vj->FuncId->List D->Option (List (D×U))
 | [],_,_=>none
 | (g,wE,l)::M,f,args=>match Nat.beq g f with
  | true=>match sG wE args with
   | true=>some l
   | false=>Gu M f args
  | false=>Gu M f args
def known(M:vj)(f:FuncId)(args:List D):U->Option (List (D×U))
 | []=>Gu M f args
 | _=>none
mutual
def Bm(T:ia)(M:vj):Nat->Nat->List Nat->IR->St->Option (List Out)
 | 0,_,_,_,_=>none
 | k+1,n,live,a,s=>match qJ T (run T M k) (Bm T M k) (Dk T M k) a s with
  | some l=>rM l λo=>match o with
   | .norm b=>Bm T M k n live a (cut n live b)
   | o=>some [o]
  | none=>none
def Dk(T:ia)(M:vj):Nat->BA
 | 0,_,_=>none
 | k+1,c,s=>qJ T (run T M k) (Bm T M k) (Dk T M k) c s
def run(T:ia)(M:vj):Nat->xK
 | 0,_,_,_=>none
 | k+1,f,args,H=>match known M f args H with
  | some l=>some l
  | none=>match T.fn f with
  | none=>none
  | some fn=>if args.length<=fn.ntmps then(match qJ T (run T M k) (Bm T M k) (Dk T M k) fn.body { env:=s7 args,H:=H }with
   | some l=>match rM l λo=>match finish fn fn.own H.length o with
     | some p=>some [p]
     | none=>none with
    | some ps=>some (once N1 ps)
    | none=>none
   | none=>none)else none
end
end Go.AL
namespace Go.AL
open Go
theorem TO{a b:Value}(h:KR a b=true):a=b:=by
 unfold KR at h;split at h
 .grind
 .grind
 .rename_i a b;simp only[decide_eq_true_eq]at h
  have:a=b:=by cases a;cases b;congr 1;exact Array.ext' h
  rw[this]
 .rfl
 .grind
 .cases h
mutual
theorem EE:∀ {a b:D},ox a b=true->a=b
 | .any,b,h=>by cases b<;>simp[ox]at h ⊢
 | .val a,b,h=>by cases b<;>simp[ox]at h ⊢;exact TO h
 | .agg a,b,h=>by cases b<;>simp[ox]at h ⊢;exact wO h
 | .tup a,b,h=>by cases b<;>simp[ox]at h ⊢;exact wO h
 | .sl n a,b,h=>by cases b<;>simp[ox]at h ⊢;exact⟨h.1,TJ h.2⟩
 | .fJ,b,h=>by cases b<;>simp[ox]at h ⊢
 | .lD _,b,h=>by cases b<;>simp[ox]at h
 | .fy a1 a2 a3 a4 a5,b,h=>by cases b<;>simp[ox]at h ⊢;simp[h]
 | .ptr a1 a2 a3,b,h=>by cases b<;>simp[ox]at h ⊢;simp[h]
 | .fV a,b,h=>by cases b<;>simp[ox]at h ⊢;exact wO h
 | .gg a,b,h=>by cases b<;>simp[ox]at h ⊢;exact h
 | .iH a,b,h=>by cases b<;>simp[ox]at h ⊢;exact h
 | .fn f a a',b,h=>by
  cases f<;>cases b<;>first|(simp[ox]at h;done)|skip
  rename_i f g b c;cases g<;>simp[ox]at h ⊢;exact⟨h.1.1,wO h.1.2,wO h.2⟩
theorem wO:∀ {a b:List D},sG a b=true->a=b
 | [],[],_=>rfl
 | a::l,b::m,h=>by simp only[sG,Bool.and_eq_true]at h;rw[EE h.1,wO h.2]
 | [],_::_,h=>by simp[sG]at h
 | _::_,[],h=>by simp[sG]at h
theorem TJ:∀ {a b:List (List D)},B9 a b=true->a=b
 | [],[],_=>rfl
 | a::l,b::m,h=>by simp only[B9,Bool.and_eq_true]at h;rw[wO h.1,TJ h.2]
 | [],_::_,h=>by simp[B9]at h
 | _::_,[],h=>by simp[B9]at h
end
theorem NW:∀ {a b:Env},zR a b=true->a=b
 | [],[],_=>rfl
 | (i,a)::l,(j,b)::m,h=>by simp only[zR,Bool.and_eq_true,decide_eq_true_eq]at h;rw[h.1.1,EE h.1.2,NW h.2]
 | [],_::_,h=>by simp[zR]at h
 | _::_,[],h=>by simp[zR]at h
theorem TK:∀ {a b:List (Value×D)},B' a b=true->a=b
 | [],[],_=>rfl
 | (i,a)::l,(j,b)::m,h=>by simp only[B',Bool.and_eq_true]at h;rw[TO h.1.1,EE h.1.2,TK h.2]
 | [],_::_,h=>by simp[B']at h
 | _::_,[],h=>by simp[B']at h
theorem aa3{a b:Ob}(h:NZ a b=true):a=b:=by
 unfold NZ at h;split at h
 .simp only[Bool.and_eq_true,decide_eq_true_eq]at h;rw[h.1.1,h.1.2,wO h.2]
 .simp only[Bool.and_eq_true,decide_eq_true_eq]at h;rw[h.1,TK h.2]
 .simp only[Bool.and_eq_true,decide_eq_true_eq]at h;rw[h.1.1,NW h.1.2,h.2]
 .rename_i a p b q;simp only[Bool.and_eq_true,decide_eq_true_eq]at h
  have:a=b:=by cases a;cases b;congr 1;exact Array.ext' h.1
  rw[this,h.2]
 .simp only[Bool.and_eq_true,decide_eq_true_eq]at h;rw[EE h.1.1,h.1.2,h.2]
 .rfl
 .rfl
 .rfl
 .cases h
theorem NY:∀ {a b:U},zS a b=true->a=b
 | [],[],_=>rfl
 | a::l,b::m,h=>by simp only[zS,Bool.and_eq_true]at h;rw[aa3 h.1,NY h.2]
 | [],_::_,h=>by simp[zS]at h
 | _::_,[],h=>by simp[zS]at h
theorem N2{a b:St}(h:EF a b=true):a=b:=by obtain⟨e,H,m,r⟩:=a;obtain⟨j,H',i,g⟩:=b;simp only[EF,Bool.and_eq_true,decide_eq_true_eq,beq_iff_eq]at h;obtain⟨⟨⟨h1,f⟩,d⟩,c⟩:=h;rw[NW h1,NY f,d,c]
theorem aa4{a b:Out}(h:N0 a b=true):a=b:=by
 unfold N0 at h;split at h
 .rw[N2 h]
 .simp only[Bool.and_eq_true,decide_eq_true_eq]at h;rw[h.1,N2 h.2]
 .rw[N2 h]
 .cases h
theorem aa5{a b:D×U}(h:N1 a b=true):a=b:=by simp only[N1,Bool.and_eq_true]at h;exact ew (EE h.1) (NY h.2)
theorem Mo{α:Type}{d:α->α->Bool}(h:∀a b,d a b=true->a=b):∀ {l:List α} {a:α},a∈l->a∈once d l
 | [a],b,hb=>hb
 | a::b::l,c,hc=>by
  rw[once]
  .split
   .rename_i e;rcases aw.1 hc with rfl|hc
    .grind
    .exact Mo h hc
   .rcases aw.1 hc with rfl|hc
    .grind
    .exact aZ _ (Mo h hc)
  .grind
theorem wD{α g:Type}{f:α->Option (List g)}:∀ {l:List α} {r:List g},rM l f=some r->∀a∈l,∃y,f a=some y/\∀b∈y,b∈r
 | [],r,_,a,ha=>by simp at ha
 | [a],r,h,b,hb=>by simp only[List.mem_singleton]at hb;subst hb;exact⟨r,h,λ_ h=>h⟩
 | a::b::l,r,h,c,hc=>by
  rw[rM]at h
  .split at h
   .rename_i x y m j;cases h;rcases aw.1 hc with rfl|hc
    .grind
    .obtain⟨z,i,e⟩:=wD j c hc;exact⟨z,i,λd k=>bP _ (e d k)⟩
   .cases h
  .grind
section
variable{T:ia}{cl:xK}{rd:BA}
def vi(l:List Out):oS->Prop:=λr=>∃o∈l,r = .out o
def D0(l:List St):oS->Prop:=λr=>∃s∈l,r = .out (.norm s)
def kC(l:List (D×U)):oS->Prop:=λr=>∃p∈l,r = .val p.1 p.2
def q'(T:ia)(cl:xK):Prop:=∀f args H l,cl f args H=some l->Ev T (.call f args H) (kC l)
def J5(T:ia)(rd:BA):Prop:=∀c s l,rd c s=some l->Ev T (.code c s) (vi l)
theorem vi.out{l:List Out}{o:Out}(h:vi l (.out o)):o∈l:=by obtain⟨o',h1,a⟩:=h;cases a;exact h1
theorem kC.val{l:List (D×U)}{d:D}{H:U}(h:kC l (.val d H)):(d,H)∈l:=by obtain⟨o',h1,a⟩:=h;cases a;exact h1
theorem D0.sub{a b:List St}(h:∀s∈a,s∈b){r:oS}(c:D0 a r):D0 b r:=by obtain⟨s,h1,d⟩:=c;exact⟨s,h s h1,d⟩
theorem vi.sub{a b:List Out}(h:∀s∈a,s∈b){r:oS}(c:vi a r):vi b r:=by obtain⟨s,h1,d⟩:=c;exact⟨s,h s h1,d⟩
theorem acK{S:List Nat}{s:St}{g:Option (Nat×Bool)}{b:Bool}(h:guardOf s.env.get g=some b):guardOf (lH S s).env.get g=some b:=by
 cases g with
 | none=>exact h
 | some p=>
  simp only[guardOf,lH]at h ⊢
  have e:Env.get (s.env.map λp=>(p.1,fL (il (l6 s.H S)) s.H 40 p.2)) p.1=fL (il (l6 s.H S)) s.H 40 (s.env.get p.1):=by
   generalize s.env=env
   induction env with
   | nil=>rfl
   | cons q r c=>
    obtain⟨j,d⟩:=q;simp only[List.map_cons,Env.vC];split
    .rfl
    .exact c
  rw[e];split at h
  .rename_i x a;rw[a];have:fL (il (l6 s.H S)) s.H 40 (.val (.bool x)) = .val (.bool x):=by unfold fL;rfl
   rw[this];exact h
  .rename_i vs a;rw[a];have:fL (il (l6 s.H S)) s.H 40 (.val (.tuple vs)) = .val (.tuple vs):=by unfold fL;rfl
   rw[this];exact h
  .cases h
theorem Ye(p:q' T cl){e:gI}{r:List gI}{f:FuncId}{fn:iP}{s:St}{l:List St}{R:oS->Prop}(hg:guardOf s.env.get e.guard=some true)(n:T.fn f=some fn)(m:fn.full=false)
  (h:ME cl e f s=some l) (k:∀b∈l,Ev T (.ops r b) R):Ev T (.ops (e::r) s) R:=by
 unfold ME at h;split at h
 .cases h
 .rename_i f' args o;split at h
  .rename_i t;subst t;split at h
   .rename_i u j;have g:=wD h;refine .Ej hg o n m (p _ _ _ _ j) (λd Hn c=>?_) λd Hn b c q=>?_
    .obtain⟨y,a,_⟩:=g _ c.val;dsimp only at a;split at a
     .grind
     .cases a
    .obtain⟨y,a,i⟩:=g _ c.val;dsimp only at a;rw[q]at a;cases a;exact k b (i b (by simp))
   .cases h
  .cases h
theorem akF(c:q' T cl){e:gI}{r:List gI}{s:St}{l:List St}{R:oS->Prop}(hg:guardOf s.env.get e.guard=some true)
  (h:Q8 T cl e s=some l) (k:∀i∈l,Ev T (.ops r i) R):Ev T (.ops (e::r) s) R:=by
 unfold Q8 at h;split at h
 .cases h
 .rename_i f args n;split at h
  .cases h
  .rename_i fn b;split at h
   .rename_i a;split at h
    .rename_i o j;cases h;refine .Ei hg n b a (c _ _ _ _ j) λd H' m=>k _ ?_;exact aq.2 ⟨(d,H'),m.val,rfl⟩
    .cases h
   .rename_i a;split at h
    .rename_i g;simp only[Bool.and_eq_true,dO]at g;refine .lH (refsOf s args) ?_ (Ye c (acK hg) b a h k);rw[g.1.2];rfl
    .exact Ye c hg b a h k
theorem akH(g:J5 T rd){e:gI}{r:List gI}{s:St}{v:Nat}{args:List D}{l:List St}{R:oS->Prop}(hg:guardOf s.env.get e.guard=some true)(z:yieldOf s.env.get e.op=some (v,args))
  (h:Rf T rd e s v args=some l) (k:∀p∈l,Ev T (.ops r p) R):Ev T (.ops (e::r) s) R:=by
 unfold Rf at h;split at h
 .rename_i rf env0 w;split at h
  .rename_i Rd A;split at h
   .rename_i hl;split at h
    .rename_i C n;split at h
     .rename_i t f;have m:=wD f;have j:=wD h;refine .Kg hg z w A hl (g _ _ _ n) (Rb:=vi t) (λo b=>?_) (λs1 i u c=>?_) (λo b=>?_) λo E b q=>?_
      .obtain⟨y,a,_⟩:=m o b.out;split at a
       .rename_i s1;split at a
        .rename_i F i c;split at a
         .rename_i B;subst B;exact⟨rfl,i,c⟩
         .cases a
        .cases a
       .cases a
      .obtain⟨y,a,d⟩:=m _ u.out;simp only[c,if_true]at a;exact(g _ _ _ a).mono λr x=>x.sub d
      .obtain⟨y,a,_⟩:=j o b.out;split at a
       .grind
       .cases a
      .obtain⟨y,a,d⟩:=j o b.out;simp only[q,if_true]at a;cases a;exact k _ (d _ (by simp))
     .cases h
    .cases h
   .cases h
  .cases h
 .cases h
theorem akG{e:gI}{r:List gI}{s:St}{x:X}{l:List St}{R:oS->Prop}(hg:guardOf s.env.get e.guard=some true)(b:e.op = .nextM x)
  (h:Re e s x=some l) (k:∀a∈l,Ev T (.ops r a) R):Ev T (.ops (e::r) s) R:=by
 unfold Re at h;split at h
 .rename_i v c;split at h
  .rename_i m since seen f;split at h
   .rename_i kk es g;split at h
    .rename_i hs;dsimp only at h;refine .next hg b c f g hs (λh0=>?_) λi kv d hi n=>?_
     .rw[if_pos]at h
      .grind
      .simp_all
     .have j:=(ae.1 hi).1;rw[if_neg]at h
      .grind
      .rw[dO,List.filter_eq_nil_iff];intro h0;have:=h0 i (by simpa using j);simp at this;exact n this
    .cases h
   .cases h
  .cases h
 .cases h
theorem GD(c:q' T cl)(b:J5 T rd):∀(l:List gI) (s:St) (r:List St),wg T cl rd l s=some r->Ev T (.ops l s) (D0 r)
 | [],s,r,h=>by cases h;exact .nil ⟨s,by simp,rfl⟩
 | e::r,s,res,h=>by
  have g:∀ {l:List St},(rM l λa=>wg T cl rd r a)=some res->∀a∈l,Ev T (.ops r a) (D0 res):=λhl a o=>by obtain⟨y,m,j⟩:=wD hl a o;exact(GD c b r a y m).mono λ_ n=>n.sub j
  simp only[wg]at h;split at h
  .cases h
  .rename_i hg;exact .off hg (GD c b r _ _ h)
  .rename_i hg;split at h
   .rename_i d δ f;exact .op hg f (GD c b r _ _ h)
   .split at h
    .rename_i d δ f;exact .Bq hg f (GD c b r _ _ h)
    .split at h
     .rename_i x k;split at h
      .rename_i l hl;exact akG hg k hl (g h)
      .cases h
     .split at h
      .rename_i v args i;split at h
       .rename_i l hl;exact akH b hg i hl (g h)
       .cases h
      .split at h
       .cases h
       .rename_i i;split at h
        .rename_i l hl;exact akF c hg hl (g h)
        .cases h
theorem Bn(a:q' T cl)(st:Bool):∀(l:List gI) (s:St) (rs:List Rc) (j:St),xE T cl st l s=some (rs,j)->Ev T (.trace l s) (λr=>r = .tr rs j)
 | [],s,rs,j,h=>by cases h;exact .G2 rfl
 | e::r,s,rs,j,h=>by
  simp only[xE]at h;split at h
  .cases h
  .rename_i hg;split at h
   .rename_i h1;cases h;exact .G3 hg (Bn a st r _ _ _ h1) λ_ _ h=>by cases h;rfl
   .cases h
  .rename_i hg;split at h
   .rename_i d δ x;split at h
    .rename_i h1;cases h;exact .G4 hg x (Bn a st r _ _ _ h1) λ_ _ h=>by cases h;rfl
    .cases h
   .split at h
    .cases h
    .rename_i f args q;split at h
     .cases h
     .rename_i fn p;split at h
      .cases h
      .rename_i A;have n:fn.full=false:=by grind
       split at h
       .rename_i d k
        by_cases b:(if gh args=true then closed d else flat d)=true
        .rw[if_pos b]at h;split at h
         .rename_i h1;cases h;refine .GZ hg q p n (a _ _ _ _ k) (λd' Hn i=>?_) b (Bn a st r _ _ _ h1) λ_ _ h=>by cases h;rfl
          have:=i.val;simp only[List.mem_singleton,dp]at this;exact this
         .cases h
        .rw[if_neg b]at h;split at h
         .rename_i g m c;split at h
          .rename_i v l w;split at h
           .rename_i t;simp only[Bool.and_eq_true,List.all_eq_true,decide_eq_true_eq]at t;obtain⟨⟨⟨C,c2⟩,z⟩,y⟩:=t;split at h
            .rename_i h1;cases h;have o:some (g,m.map (ev s.env.get))=some (f,args):=by rw[<-q,c];rfl
             cases o;refine .G1 (v:=v) hg c rfl p n (λu B=>?_) (by rw[w];simp) c2 z (a _ _ _ _ k) (λd' Hn i=>?_) y (Bn a st r _ _ _ h1) λ_ _ h=>by cases h;rfl
             .grind
             .have:=i.val;simp only[List.mem_singleton,dp]at this;exact this
            .cases h
           .cases h
          .cases h
         .cases h
       .rename_i d ob k;split at h
        .rename_i g m c
         by_cases b:(if gh args=true then mq d&&nz ob else n5 d&&oX ob)=true
         .rw[if_pos b]at h;split at h
          .rename_i h1;cases h;have o:some (g,m.map (ev s.env.get))=some (f,args):=by rw[<-q,c];rfl
           cases o;refine .G0 hg c rfl p n (a _ _ _ _ k) (λd' Hn i=>?_) b (Bn a st r _ _ _ h1) λ_ _ h=>by cases h;rfl
           have:=i.val;simp only[List.mem_singleton,dp]at this;exact this
          .cases h
         .grind
        .cases h
       .cases h
theorem Q9(q:q' T cl)(E:J5 T rd){C:Nat->List Nat->IR->St->Option (List Out)}(z:∀n live a s l,C n live a s=some l->Ev T (.loop n live a s) (vi l)) :
  ∀(c:IR) (s:St) (l:List Out),qJ T cl C rd c s=some l->Ev T (.code c s) (vi l):=by
 intro c
 induction c with
 | skip=>intro s l h;cases h;exact .skip ⟨_,by simp,rfl⟩
 | ops ops=>
  intro s l h;simp only[qJ]at h;split at h
  .rename_i u h1;cases h;refine .Eu ((GD q E _ _ _ h1).mono λr v=>?_);obtain⟨j,B,rfl⟩:=v;exact⟨_,aq.2 ⟨j,B,rfl⟩,rfl⟩
  .cases h
 | mj H ops es=>intro s l h;simp[qJ]at h
 | lF H ops=>
  intro s l h;simp only[qJ]at h;split at h
  .rename_i rs j h1;split at h
   .rename_i w;cases h;exact .lF (Bn q _ _ _ _ _ h1) λ_ _ h=>by cases h;exact⟨w,_,by simp,rfl⟩
   .cases h
  .split at h
   .rename_i i;split at h
    .rename_i rs j h1;split at h
     .rename_i w;cases h;refine .EN (List.range s.H.length) ?_ (.lF (Bn q _ _ _ _ _ h1) λ_ _ h=>by cases h;exact⟨w,_,by simp,rfl⟩);rw[dO]at i;rw[i];rfl
     .cases h
    .cases h
   .cases h
 | seq a b k t=>
  intro s l h;simp only[qJ]at h;split at h
  .rename_i u h1;have i:=wD h;refine .seq (k _ _ h1) (λj B=>?_) λo p L=>?_
   .obtain⟨y,g,m⟩:=i _ B.out;exact(t _ _ g).mono λ_ v=>v.sub m
   .obtain⟨y,g,m⟩:=i _ p.out
    cases o with
    | norm=>cases L
    | exit id j=>cases g;exact⟨_,m _ (by simp),rfl⟩
    | ret j=>cases g;exact⟨_,m _ (by simp),rfl⟩
  .cases h
 | cond c a b k t=>
  intro s o h;simp only[qJ]at h;split at h
  .rename_i A;exact .cond (x:=true) A (k _ _ h)
  .rename_i A;exact .cond (x:=false) A (t _ _ h)
  .cases h
 | block id live a k=>
  intro s l h;simp only[qJ]at h;split at h
  .rename_i u h1;cases h;refine .block (k _ _ h1) λo p=>⟨_,Mo (λ_ _=>aa4) (aq.2 ⟨o,p.out,rfl⟩),rfl⟩
  .cases h
 | loop live a k=>intro s o h;exact .loop (z _ _ _ _ _ h)
 | nv rf live x=>
  intro s l h;simp only[qJ]at h;split at h
  .cases h
  .rename_i F;split at h
   .rename_i f first cap hx
    split at h
    .rename_i fn J;split at h
     .rename_i D;split at h
      .rename_i u I;have i:=wD h;refine .nv (by simpa using F) hx J D (q _ _ _ _ I) λd H' K=>?_;obtain⟨y,g,m⟩:=i _ K.val;dsimp only at g;split at g
       .rename_i M env st G;split at g
        .rename_i e;subst e;split at g
         .rename_i o p;cases g;exact⟨env,st,o,G,p,_,m _ (by simp),rfl⟩
         .cases g
        .cases g
       .cases g
      .cases h
     .cases h
    .cases h
   .cases h
 | exit id=>intro s o h;cases h;exact .exit ⟨_,by simp,rfl⟩
 | ret=>intro s o h;cases h;exact .ret ⟨_,by simp,rfl⟩
 | bad=>intro s o h;cases h
 | fz _ _=>intro s o h;cases h
 | uo _ _ _=>intro s o h;cases h
end
section
variable{T:ia}
def kP(T:ia)(M:vj):Prop:=∀p∈M,Ev T (.call p.1 p.2.1 []) (kC p.2.2)
theorem kP.nil(T:ia):kP T []:=λp a=>by cases a
theorem kP.cons{T:ia}{f:FuncId}{args:List D}{l:List (D×U)}{M:vj}(h:Ev T (.call f args []) (kC l))(t:kP T M):kP T ((f,args,l)::M):=λp a=>by
 rcases aw.1 a with rfl|a
 .exact h
 .exact t p a
theorem akc{M:vj}(hM:kP T M){f:FuncId}{args:List D}{l:List (D×U)}(h:Gu M f args=some l):Ev T (.call f args []) (kC l):=by
 induction M with
 | nil=>cases h
 | cons p M i=>
  obtain⟨g,a,e⟩:=p;have d:kP T M:=λq b=>hM q (by simp[b]);simp only[Gu]at h;split at h
  .rename_i hg;split at h
   .rename_i c;cases h;have:=hM (g,a,l) (by simp);rw[wO c,bZ hg]at this;exact this
   .grind
  .grind
theorem Yi{M:vj}(hM:kP T M):∀k:Nat,(∀n live a s l,Bm T M k n live a s=some l->Ev T (.loop n live a s) (vi l))/\J5 T (Dk T M k)/\q' T (run T M k)
 | 0=>⟨λ_ _ _ _ _ h=>by simp[Bm]at h,λ_ _ _ h=>by simp[Dk]at h,λ_ _ _ _ h=>by simp[run]at h⟩
 | k+1=>by
  obtain⟨e,j,i⟩:=Yi hM k;refine⟨λn live a s l h=>?_,λc s l h=>?_,λf args H l h=>?_⟩
  .simp only[Bm]at h;split at h
   .rename_i r h1;have g:=wD h;refine .y5 (Q9 i j e _ _ _ h1) (λq z=>?_) λo m A=>?_
    .obtain⟨y,b,d⟩:=g _ z.out;exact(e _ _ _ _ _ b).mono λ_ u=>u.sub d
    .obtain⟨y,b,d⟩:=g _ m.out
     cases o with
     | norm=>cases A
     | exit id q=>cases b;exact⟨_,d _ (by simp),rfl⟩
     | ret q=>cases b;exact⟨_,d _ (by simp),rfl⟩
   .cases h
  .simp only[Dk]at h;exact Q9 i j e _ _ _ h
  .simp only[run]at h;split at h
   .rename_i r t;cases h
    cases H with
    | nil=>exact akc hM t
    | cons=>cases t
   split at h
   .cases h
   .rename_i fn w;split at h
    .rename_i hl;split at h
     .rename_i r h1;split at h
      .rename_i ps x;cases h;have g:=wD x;refine .call fn.own w hl (Q9 i j e _ _ _ h1) λo m=>?_;obtain⟨y,b,d⟩:=g _ m.out;split at b
       .rename_i p v;cases b;exact⟨p.1,p.2,v,p,Mo (λ_ _=>aa5) (d _ (by simp)),rfl⟩
       .cases b
      .cases h
     .cases h
    .cases h
theorem pE{M:vj}(hM:kP T M){k:Nat}{f:FuncId}{args:List D}{H:U}{l:List (D×U)}(h:run T M k f args H=some l):Ev T (.call f args H) (kC l):=(Yi hM k).2.2 f args H l h
end
end Go.AL
namespace Go.AL
open Go
@[reducible] def o(k:Nat)(op:iu):gI:={ dst:=some k,op:=op,guard:=none }
@[reducible] def u(op:iu):gI:={ dst:=none,op:=op,guard:=none }
@[reducible] def og(j:Nat)(b:Bool)(k:Nat)(op:iu):gI:={ dst:=some k,op:=op,guard:=some (j,b) }
@[reducible] def ug(j:Nat)(b:Bool)(op:iu):gI:={ dst:=none,op:=op,guard:=some (j,b) }
def Zw(n:Nat):List D:=List.replicate n (.val (.int .u32 0))
def Zb(n:Nat):List D:=List.replicate n (.val (.int .u8 0))
def Cj:List D:=([1779033703,3144134277,1013904242,2773480762,1359893119,2600822924,528734635,1541459225]:List Int).map λn=>.val (.int .u32 n)
def Cr:List D:=([1116352408,1899447441,3049323471,3921009573,961987163,1508970993,2453635748,2870763221,3624381080,310598401,607225278,1426881987,1925078388,2162078206,2614888103,3248222580,3835390401,4022224774,264347078,604807628,770255983,1249150122,1555081692,1996064986,2554220882,2821834349,2952996808,3210313671,3336571891,3584528711,113926993,338241895,666307205,773529912,1294757372,1396182291,1695183700,1986661051,2177026350,2456956037,2730485921,2820302411,3259730800,3345764771,3516065817,3600352804,4094571909,275423344,430227734,506948616,659060556,883997877,958139571,1322822218,1537002063,1747873779,1955562222,2024104815,2227730452,2361852424,2428436474,2756734187,3204031479,3329325298]:List Int).map λn=>.val (.int .u32 n)
def nth:List (Option iP)->Nat->Option iP
 | [],_=>none
 | a::_,0=>a
 | _::l,n+1=>nth l n
def assoc:List (Nat×pJ)->Nat->Option pJ
 | [],_=>none
 | (k,R)::l,n=>if k=n then some R else assoc l n
def elem(f:Nat):List Nat->Bool
 | []=>false
 | a::l=>if a=f then true else elem f l
def Ec(fn:Func):Code:=fn.body.getD .skip
def Bk(P:Program)(rf:Nat):Array Tmp:=match zj P rf with
 | some (_,ps,_,_)=>ps
 | none=>#[]
def Bh(P:Program)(rf:Nat):Code:=match zj P rf with
 | some (_,_,a,_)=>a
 | none=>.skip
def Bi(P:Program)(rf:Nat):Code:=match zj P rf with
 | some (_,_,_,b)=>b
 | none=>.skip
section
variable{P:Program}{G:GT}
theorem acD{f:FuncId}{fn:iP}{func:Func}{code:Code}{hs a:List (List Nat)}(h1:P.funcs[f]? = some func)(h:func.body=some code)(g:rT P f=true)(e:(mW code).length<=64)
  (d:cC P G fn.ntmps (64*f) hs code=some (fn.body,a)) (c:func.ntmps=fn.ntmps) (b:zG P func.results.toList=some fn.results):DY P G f fn:=⟨⟨func,code,hs,a,h1,h,g,e,d,c,b⟩⟩
theorem Bj{rf:Nat}{R:pJ}{N:Nat}{ps:Array Tmp}{ac bc:Code}(d c:List (List Nat))(h1:G.rt rf=some (N,ps,ac,bc))(h:ps.toList=R.params)(g:(R.params.all λp=>decide (p<N))=true)
  (b:mW ac = []/\mW bc = []) (f:cC P G N 0 d ac=some (R.a,[])) (e:cC P G N 0 c bc=some (R.b,[])):tY P G rf R:=
 ⟨⟨N,ps,ac,bc,h1,h,g,Nw (λi x a=>by rw[b.1]at a;cases a) f,Nw (λi x a=>by rw[b.2]at a;cases a) e⟩⟩
inductive wy(P:Program)(G:GT):Nat->List (Option iP)->Prop
 | nil (k:Nat):wy P G k []
 | has {k:Nat} {fn:iP} {l:List (Option iP)} (h:DY P G k fn) (t:wy P G (k+1) l):wy P G k (some fn::l)
 | no {k:Nat} {l:List (Option iP)} (t:wy P G (k+1) l):wy P G k (none::l)
inductive zA(P:Program)(G:GT):List (Nat×pJ)->Prop
 | nil:zA P G []
 | cons {k:Nat} {R:pJ} {l:List (Nat×pJ)} (h:tY P G k R) (t:zA P G l):zA P G ((k,R)::l)
theorem wy.get:∀ {l:List (Option iP)} {k:Nat},wy P G k l->∀(i:Nat) (fn:iP),nth l i=some fn->DY P G (k+i) fn:=by
 intro l k h
 induction h with
 | nil=>intro i fn hi;cases hi
 | has h t a=>
  intro i fn hi
  cases i with
  | zero=>cases hi;exact h
  | succ i=>
   have:=a i fn hi;rwa [aW,da 1 i]at this
 | no t a=>
  intro i fn hi
  cases i with
  | zero=>cases hi
  | succ i=>
   have:=a i fn hi;rwa [aW,da 1 i]at this
theorem zA.get{l:List (Nat×pJ)}(h:zA P G l):∀(i:Nat) (R:pJ),assoc l i=some R->tY P G i R:=by
 induction h with
 | nil=>intro i R hi;cases hi
 | @cons k b l h t a=>
  intro i R hi;simp only[assoc]at hi;split at hi
  .rename_i e;subst e;cases hi;exact h
  .exact a i R hi
theorem alv{l:List (Option iP)}{r:List (Nat×pJ)}{a:FuncId->Option Nat}(d:G.rt=zj P)(h:wy P G 0 l)(j:zA P G r){b:FuncId->Bool}(i:∀f sz,a f=some sz->wC P f sz)(g:∀f,b f=true->zB P f){c:FuncId->Bool}(e:∀f,c f=true->zt P f):Nj P G { fn:=nth l,round:=assoc r,sort:=a,su:=b,sE:=c } where
 sort:=i
 su:=g
 sE:=e
 rt:=d
 fn f fn hf:=by have:=h.get f fn hf;rwa [aM]at this
 round:=j.get
