/- Part 7 of DisputeSettles. -/
import Derived.Test.YtmehofoficaelaaGreatDoorS06
import Derived.KernelRfl
set_option linter.all false
namespace Go.AL
open Go
def CC(P:Program)(G:GT)(g:FuncId)(args:List D)(d:D)(Hn:U):Prop:=s5 P g=true/\zf P G g args [] d Hn
def outs(R:pI->Prop):Out->Prop:=λo=>R (.out o)
def Fz(R:pI->Prop):D->U->Prop:=λd H=>R (.val d H)
def Good(P:Program)(G:GT):A7->(pI->Prop)->Prop
 | .ops l s,R=>∀(N:Nat) (A:Array Oper) (ops:List Oper),pL P G N A ops=some l ->
   ∀(d:Option Nat) (n:Nat) (Q:Exit->Act->World->Prop) (c:Ctx) (w:World) (a:Act),(s.ic=false->d=none)->lu G N c w s a->xT G N s.H.length s.ic c s.H w (outs R) Q->wpListIn (FW d) n P A Q ops a w
 | .code ir s,R=>∀(N:Nat) (code:Code),nY P G N ir code ->
   ∀(d:Option Nat) (n:Nat) (Q:Exit->Act->World->Prop) (c:Ctx) (w:World) (a:Act),(s.ic=false->d=none)->lu G N c w s a->xT G N s.H.length s.ic c s.H w (outs R) Q->code.wpIn (FW d) n P Q a w
 | .loop n0 _ ir s,R=>n0<=s.H.length->∀(N:Nat) (code:Code),nY P G N ir code ->
   ∀(d:Option Nat) (n:Nat) (Q:Exit->Act->World->Prop) (c:Ctx) (w:World) (a:Act),(s.ic=false->d=none)->lu G N c w s a->xT G N n0 s.ic c s.H w (outs R) Q->MJ (FW d) n P code Q a w
 | .call f args H,R=>vx P G f args H (Fz R)
 | .trace l s,R=>∃rs s',R (.tr rs s')/\s.H.length<=s'.H.length/\s'.marks=s.marks/\s'.ic=s.ic/\∀(K k0:Nat),s'.H.length<=K->∃b:List nu,b.map (·.e)=l/\b.map (·.rc)=rs/\b.map (·.k)=List.range' k0 l.length /\
   Tx (CC P G) s.env.get (s.H++room (K-s.H.length)) b s'.env.get (s'.H++room (K-s'.H.length))
section
variable{P:Program}{G:GT}{T:iD}
theorem xT.mono{N n m:Nat}{ic:Bool}{c b:Ctx}{H H1:U}{w w1:World}{R:Out->Prop}{Q:Exit->Act->World->Prop}(h:xT G N n ic c H w R Q)(hs:Step n c H w b H1 w1)(a:n<=m):xT G N m ic b H1 w1 R Q:=
 λo c' w' g e d hl gi f=>h o c' w' g e d (Nat.le_trans a hl) gi (hs.trans f a)
theorem GJ{N:Nat}{A:Array Oper}{o:Oper}{r:List Oper}{l:List ia}(h:pL P G N A (o::r)=some l) :
  ∃e a,l=e::a/\w7 P G N A o=some e/\pL P G N A r=some a:=by
 simp only[pL]at h;split at h
 .grind
 .cases h
theorem adZ{N:Nat}{A:Array Oper}{ops:List Oper}(h:pL P G N A ops=some []):ops = []:=by
 cases ops with
 | nil=>rfl
 | cons o r=>
  obtain⟨e,a,h1,_⟩:=GJ h;cases h1
theorem Ws{N:Nat}{A:Array Oper}:∀ {l es:List ia} {ops:List Oper},pL P G N A ops=some (l++es)->∃b a,ops=b++a/\pL P G N A b=some l/\pL P G N A a=some es
 | [],es,ops,h=>⟨[],ops,rfl,rfl,h⟩
 | e::l,es,ops,h=>by
  cases ops with
  | nil=>cases h
  | cons o r=>
   obtain⟨j,i,h1,g,f⟩:=GJ h;cases h1;obtain⟨b,a,rfl,d,c⟩:=Ws f;exact⟨o::b,a,rfl,by simp only[pL,g,d],c⟩
theorem Wu{N:Nat}{A:Array Oper}:∀ {ops:List Oper} {l:List ia},pL P G N A ops=some l->ops.length=l.length/\∀(i:Nat) (o:Oper) (e:ia),ops[i]? = some o->l[i]? = some e->w7 P G N A o=some e:=by
 intro ops
 induction ops with
 | nil=>intro l h;cases h;exact⟨rfl,λi o e h=>by simp at h⟩
 | cons o r f=>
  intro l h;obtain⟨e,g,rfl,h1,c⟩:=GJ h;obtain⟨q1,q2⟩:=f c;refine⟨by simp[q1],λi o' d a b=>?_⟩
  cases i with
  | zero=>simp at a b;subst a;subst b;exact h1
  | succ i=>exact q2 i o' d (by simpa using a) (by simpa using b)
theorem Bh{N:Nat}{A:Array Oper}{ops:List Oper}{e:ia}{l:List ia}(h:pL P G N A ops=some (e::l)) :
  ∃o r,ops=o::r/\w7 P G N A o=some e/\pL P G N A r=some l:=by
 cases ops with
 | nil=>cases h
 | cons o r=>
  obtain⟨d,c,h1,b,a⟩:=GJ h;cases h1;exact⟨o,r,rfl,b,a⟩
theorem acj{N:Nat}{c:Ctx}{w:World}{s:St}{a:Act}{b:Option Nat}{n:Nat}{o:Oper}{g:iR}{f:FuncId}{args:List D}{next:Act->World->Prop}{Q:Exit->Act->World->Prop}(hs:lu G N c w s a)(i:nP P G o=some g)
  (x:tJ N o.dst=true) (p:kK s.env.get g=some (f,args)) (m:s5 P f=true) {R:D->U->Prop}
  (q:∀vs:List Value,jC c w vs args->Calls P f vs.toArray w λe w'=>∃v c' d H',e = .returned v/\R d H'/\gE G c' H' w'/\gh c' w' v d/\Step s.H.length c s.H w c' H' w')
  (k:∀d H' c' w' l,R d H'->lu G N c' w' { s with env:=put s.env o.dst d,H:=H' } l->Step s.H.length c s.H w c' H' w'->next l w'):o.wpIn (FW b) n P a w next Q:=by
 obtain⟨vs,t,r⟩:=PA hs.gi hs.env i p m;refine⟨λ_ _=>trivial,?_⟩;rw[Oper.semAt_plain (FW b) a.eval o (CG i),t];refine⟨λh=>by simp[Fence.wide]at h,Gt.2 ((q vs r).mono ?_)⟩;rintro e w' ⟨v,c',d,H',rfl,y,gi,u,j⟩;exact k d H' c' w' _ y (hs.next gi j x u) j
theorem acG{s s1:St}{dst:Option Nat}{args:List D}{r:D}{Hn:U}(h:after s dst args r Hn=some s1) :
  (if gG args then mY r&&Hn.all oy else o3 r&&Hn.all pO)=true/\s1 = { s with env:=put s.env dst (kH s.H.length r),H:=s.H++Hn }:=by
 unfold after at h;generalize (if gG args=true then mY r&&Hn.all oy else o3 r&&Hn.all pO)=b at h;cases b
 .cases h
 .grind
theorem aa1{P:Program}{G:GT}{o:Oper}{b:iR}(a:nP P G o=some b):PQ b=false:=by
 unfold nP at a;split at a
 all_goals try simp only[aA,ag,aG]at a
 all_goals (repeat' first|(obtain⟨_,_,a⟩:=a)|split at a|simp only[ag]at a)
 all_goals first|rfl|(cases a;done)|(cases a;rfl)|(split<;>rfl)
theorem anI{P:Program}{G:GT}{o:Oper}{x:X}(a:nP P G o=some (.nextM x)):False:=by have:=aa1 a;cases this
theorem anJ{P:Program}{G:GT}{o:Oper}{a:iR}(b:nP P G o=some a){f:gT}{H:U}{n:Nat}{r:D×Dl}(h:mC f H n a=some r):False:=by have:=aa1 b;cases a<;>first|(cases h;done)|(cases this;done)
theorem an8{fn:jo}(s:St)(ms:List Nat):AL.results fn { s with marks:=ms }=AL.results fn s:=by
 have h1:∀x,Fa { s with marks:=ms } x=Fa s x:=λx=>by cases x<;>rfl
 have b:∀l,vo { s with marks:=ms } l=vo s l:=by
  intro l
  induction l with
  | nil=>rfl
  | cons x r a=>simp only[vo,h1,a]
 simp only[AL.results,b]
theorem agd(hM:P.follows .mixedOrders=true)(hT:Qc P G T){j:A7}{R:pI->Prop}(h:Ev T j R):Good P G j R:=by
 induction h with
 | @mono j R R' h hi L=>
  cases j with
  | ops l s=>exactλN A ops D I n Q c w a J hs B=>L N A ops D I n Q c w a J hs λo c' w' U X=>B o c' w' U (hi _ X)
  | code ir s=>exactλN code D I n Q c w a J hs B=>L N code D I n Q c w a J hs λo c' w' U X=>B o c' w' U (hi _ X)
  | loop n0 live ir s=>exactλhn N code D I n Q c w a J hs B=>L hn N code D I n Q c w a J hs λo c' w' U X=>B o c' w' U (hi _ X)
  | call f args H=>exactλc w vs h1 V=>(L c w vs h1 V).mono λ_ _ ⟨v,c',d,H',he,X,r⟩=>⟨v,c',d,H',he,hi _ X,r⟩
  | trace l s=>
   obtain⟨rs,s',h1,V⟩:=L;exact⟨rs,s',hi _ h1,V⟩
 | @sort f g fn sz v gen t H R α fc l cf hs hg hl gO h0 xi EO tr nt D hv k wx=>
  obtain⟨func,code,h1,V,t1,t2,t3,_⟩:=(hT.fn g fn hg).ex;exact apa (hT.sort f sz hs) t3 fc l hl gO h0 xi cf EO tr nt (λx hx y hy c w vs h1 V=>(wx x hx y hy c w vs h1 V).mono λ_ _ ⟨v,c',d,H',he,X,r⟩=>⟨v,c',d,H',he,by obtain⟨_,e⟩:=X;cases e;rfl,r⟩) hv k
 | @Fq f sz x H R hs k=>exact ao9 (hT.sort f sz hs) (f:=f) (g:=0) k
 | @tz f v gen t H R l hs h0 xi hv k=>exact apc (hT.tz f hs) l h0 xi hv k
 | @sZ f v gen t zs H R l i hs hi hv k=>exact aed (hT.sZ f hs) l i hi hv k
 | @nil s R h=>
  intro N A ops D I n Q c w a J hs B;rw[adZ D];exact B _ c w a h rfl (Nat.le_refl _) hs (Step.refl _ _ _ _)
 | @op e r s d δ R hg h t L=>
  have E:s.H.length<=(δ.app s.H (Al.last s.H)).length:=Qi δ s.H;intro N A ops D I n Q c w a J hs B;obtain⟨o,r',rfl,ho,nU⟩:=Bh D;obtain⟨s1,s2,s3,s4⟩:=zK ho;have hw:=vt hs.env s4 hg;simp only[wpListIn,hw,if_true];have s1:=Wm s1 h;refine apH hs s1 s3 (nq.last s.H) h λc' w' U O W=>?_;rw[<-s2]at O;exact L N A r' nU I n Q c' w' U J O (B.mono W E)
 | @C1 e r s d δ R hg h t L=>
  have E:s.H.length<=(δ.app s.H (Al.last s.H)).length:=Qi δ s.H;intro N A ops D I n Q c w a J hs B;obtain⟨o,r',rfl,ho,nU⟩:=Bh D;obtain⟨s1,s2,s3,s4⟩:=zK ho;have hw:=vt hs.env s4 hg;simp only[wpListIn,hw,if_true];have s1:=s1.resolve_left λV=>anJ V h;refine apJ hs s1 s3 (nq.last s.H) h λc' w' U O W=>?_;rw[<-s2]at O;exact L N A r' nU I n Q c' w' U J O (B.mono W E)
 | @off e r s R hg t L=>
  intro N A ops D I n Q c w a J hs B;obtain⟨o,r',rfl,ho,nU⟩:=Bh D;obtain⟨s1,s2,s3,s4⟩:=zK ho;have hw:=vt hs.env s4 hg;simp only[wpListIn,hw,bG,if_false];refine⟨λ_ _=>trivial,?_⟩;have O:=hs.next hs.gi (Step.refl _ _ _ _) s3 (v:=undef) (d:=.val undef) (.val _)
  rw[<-s2]at O;rw[<-s2];exact L N A r' nU I n Q c w _ J (by rw[s2]at O ⊢;exact O) B
 | @me l s R S hm t L=>
  have Y:(me S s).H.length=s.H.length:=Ri;intro N A ops D I n Q c w a J hs B;obtain⟨c',O,W,_⟩:=XL hs S;refine L N A ops D I n Q c' w a J O ?_;rw[Y];exact B.mono W (Nat.le_refl _)
 | @G4 code s R S hm t L=>
  have Y:(me S s).H.length=s.H.length:=Ri;intro N code D I n Q c w a J hs B;obtain⟨c',O,W,_⟩:=XL hs S;refine L N code D I n Q c' w a J O ?_;rw[Y];exact B.mono W (Nat.le_refl _)
 | @Rg l s R live t L=>
  intro N A ops D I n Q c w a J hs B;exact L N A ops D I n Q c w a J ⟨hs.gi,DO hs.env live,hs.size,hs.marks⟩ B
 | @G3 code s R live t L=>
  intro N code D I n Q c w a J hs B;exact L N code D I n Q c w a J ⟨hs.gi,DO hs.env live,hs.size,hs.marks⟩ B
 | @Gs e r s f args fn R1 R hg D hf Z h ha t wx L=>
  intro N A ops pT I n Q c w a J hs B;obtain⟨o,r',rfl,ho,nU⟩:=Bh pT;obtain⟨s1,s2,s3,s4⟩:=zK ho;have hw:=vt hs.env s4 hg;simp only[wpListIn,hw,if_true];obtain⟨func,code,h1,V,t1,t2,t3,_⟩:=(hT.fn f fn hf).ex
  have jt:∀d Hn,Fz R1 d Hn->(if gG args then mY d&&Hn.all oy else o3 d&&Hn.all pO)=true/\after s e.dst args d Hn=some { s with env:=put s.env e.dst (kH s.H.length d),H:=s.H++Hn }:=λd Hn X=>by obtain⟨s',O⟩:=dp.1 (ha d Hn X);obtain⟨k1,rfl⟩:=acG O;exact⟨k1,O⟩
  have s1:=GC s1 D;refine acj hs s1 s3 D t3 (R:=λd H'=>∃d0 Hn,Fz R1 d0 Hn/\d=kH s.H.length d0/\H'=s.H++Hn) (λvs iB=>(anQ hs.gi iB wx λd Hn X=>(jt d Hn X).1).mono ?_) ?_
  .grind
  .rintro d H' c' w' U ⟨d0,Hn,X,rfl,rfl⟩ O W;rw[<-s2]at O;exact L d0 Hn _ X (jt d0 Hn X).2 N A r' nU I n Q c' w' U J O (B.mono W (by simp))
 | @Gr e r s f args fn R1 R hg D hf Z h t wx L=>
  intro N A ops pT I n Q c w a J hs B;obtain⟨o,r',rfl,ho,nU⟩:=Bh pT;obtain⟨s1,s2,s3,s4⟩:=zK ho;have hw:=vt hs.env s4 hg;simp only[wpListIn,hw,if_true];obtain⟨func,code,h1,V,t1,t2,t3,_⟩:=(hT.fn f fn hf).ex;have s1:=GC s1 D;refine acj hs s1 s3 D t3 (R:=λd H'=>Fz R1 d H'/\s.H.length<=H'.length) (λvs iB=>(wx c w vs hs.gi iB).mono ?_) ?_
  .grind
  .rintro d H' c' w' U ⟨X,E⟩ O W;rw[<-s2]at O;exact L d H' X N A r' nU I n Q c' w' U J O (B.mono W E)
 | @MY e r s v args rf env0 Rd Ra Rb R hg D hv X hl ha hn hb hm t ql xC wy=>
  intro N A ops pT I n Q c w a J hs B;obtain⟨o,r',rfl,ho,nU⟩:=Bh pT;obtain⟨s1,s2,s3,s4⟩:=zK ho;have hw:=vt hs.env s4 hg;simp only[wpListIn,hw,if_true];obtain⟨M,ps,ac,bc,vO,Ov,gL,RY,r5⟩:=(hT.round rf Rd X).ex;rw[<-Ov]at hl ql gL
  have s1:=s1.resolve_right λV=>by
   have:=QF V;unfold yieldOf at D;split at D
   .rename_i r4;rw[r4]at this;cases this
   .cases D
  refine apK hs s1 s3 D hv vO (by simpa using hl) (λp Z=>by simpa using List.all_eq_true.1 gL p Z) (Ra:=outs Ra) (Rb:=outs Rb) ?_ hn ?_ hm ?_
  .exact λI n Q c w a O jO=>ql M ac RY I n Q c w a (λh=>by cases h) O jO
  .intro s1 lx z7 pz oE I n Q c w a O jO;have:=xC s1 lx z7 oE M bc r5 I n Q c w a (λh=>by simp[pz]at h) O;simp only[ar,pz]at this;exact this jO
  .intro q lJ c' w' U z8 pB E O W;rw[<-s2]at O;exact wy q lJ z8 pB N A r' nU I n Q c' w' U J O (B.mono W (by simpa using E))
 | @next e r s x v m since seen kk es R hg iO hx hv hm nL h0 h1 r3 ue=>
  intro N A ops pT I n Q c w a J hs B;obtain⟨o,r',rfl,ho,nU⟩:=Bh pT;obtain⟨s1,s2,s3,s4⟩:=zK ho;have hw:=vt hs.env s4 hg;simp only[wpListIn,hw,if_true];rw[iO]at s1;have s1:=s1.resolve_left λV=>anI V;refine apG hs s1 s3 hx hv hm nL ?_ ?_
  .intro iJ c' w' U O W;rw[<-s2]at O;exact r3 iJ N A r' nU I n Q c' w' U J O (B.mono W (Nat.le_refl _))
  .intro i k d hi En c' w' U O W;rw[<-s2]at O;exact ue i k d hi En N A r' nU I n Q c' w' U J O (B.mono W (by simp))
 | @skip s R h=>
  intro N code D I n Q c w a J gi B;cases D;exact wpIn_skip (B _ c w a h rfl (Nat.le_refl _) gi (Step.refl _ _ _ _))
 | @GG l s R h L=>
  intro N code D I n Q c w a J gi B
  cases D with
  | ops h=>exact wpIn_region_list (L N _ _ h I n Q c w a J gi B)
 | @seq a b s R1 R h k hs ue wv=>
  intro N code D I n Q c w a J gi B
  cases D with
  | seq h1 V=>
   refine wpIn_seq (ue N _ h1 I n _ c w a J gi λo c' w' U X pz E sG W=>?_)
   cases o with
   | norm s'=>
    have Oy:s'.ic=s.ic:=pz;refine wv s' X N _ V I n Q c' w' U (λh=>J (by rw[<-Oy];exact h)) sG ?_;rw[Oy];exact B.mono W E
   | exit id s'=>exact B _ c' w' U (hs _ X rfl) pz E sG W
   | ret s'=>exact B _ c' w' U (hs _ X rfl) pz E sG W
 | @cond c a b s x R D h L=>
  intro N code pT I n Q c w a J gi B
  cases pT with
  | @cond cx ca cb _ _ _ hx h1 V=>
   have hr:=iS gi.gi gi.env hx;rw[D]at hr
   have he:a.eval cx = .bool x:=by generalize a.eval cx=u at hr;cases hr;rfl
   refine wpIn_cond he ?_;cases x
   .exact L N _ V I n Q c w a J gi B
   .exact L N _ h1 I n Q c w a J gi B
 | @block id live a s R1 R h k L=>
  have Y:∀s':St,s.H.length<=s'.H.length->s.H.length<=(cut s.H.length live s').H.length:=by
   intro s' h1;unfold cut;split
   .exact h1
   .dsimp only;rw[PI];simp[iI]
  have Zl:∀s':St,(cut s.H.length live s').ic=s'.ic:=by intro s';unfold cut;split<;>rfl
  intro N code D I n Q c w a J gi B
  cases D with
  | block h1=>
   refine wpIn_block (L N _ h1 I n _ c w a J gi λo c' w' U X pz E sG W=>?_);have nR:=k o X
   cases o with
   | norm s'=>
    obtain⟨c2,nH,tm,_⟩:=Bi sG E live;exact B (.norm (cut s.H.length live s')) c2 w' U nR ((Zl s').trans pz) (Y s' E) nH (W.trans tm (Nat.le_refl _))
   | exit Az s'=>
    by_cases Sh:Az=id
    .subst Sh;obtain⟨c2,nH,tm,_⟩:=Bi sG E live;simp only[lS,if_true]at nR;have:=B (.norm (cut s.H.length live s')) c2 w' U nR ((Zl s').trans pz) (Y s' E) nH (W.trans tm (Nat.le_refl _));simp only[Out.ex,Exit.inBlock,if_true]at this ⊢;exact this
    .simp only[lS,if_neg Sh]at nR;have:=B _ c' w' U nR pz E sG W;simp only[Out.ex,Exit.inBlock,if_neg Sh]at this ⊢;exact this
   | ret s'=>exact B _ c' w' U nR pz E sG W
 | @Jz s R X=>
  exact⟨[],s,X,Nat.le_refl _,rfl,rfl,λK k0 hK=>⟨[],rfl,rfl,rfl,.nil⟩⟩
 | @JB e r s d δ R1 R hg h t k L=>
  obtain⟨rs,s',s9,i1,i2,i4,i3⟩:=L;refine⟨_,s',k _ _ s9,Nat.le_trans (Qi δ s.H) i1,i2,i4,λK k0 hK=>?_⟩;obtain⟨z,e1,e2,e3,yk⟩:=i3 K (k0+1) hK;obtain⟨a1,a2⟩:=Qj (acO h) K (Nat.le_trans i1 hK);refine⟨⟨k0,e,s.H.length,⟨gR s.env.get s.H e.op,jV s.H.length δ⟩⟩::z,by simp[e1],by simp[e2],by simp[e3,cL],?_⟩
  have hE:Ef (CC P G) s.env.get (s.H++room (K-s.H.length)) e s.H.length ⟨gR s.env.get s.H e.op,jV s.H.length δ⟩ d δ:=by have:=Ef.op (C:=CC P G) (f:=s.env.get) (H:=s.H++room (K-s.H.length)) (e:=e) (n:=s.H.length) hg (by rw[acN];exact h) a2;rwa [NN]at this
  refine .cons hE ?_;rw[a1];have Z:(put s.env e.dst d).get=mO s.env.get e.dst d:=I3 _ _ _;rw[<-Z];exact yk
 | @JA e r s R1 R hg t k L=>
  obtain⟨rs,s',s9,i1,i2,i4,i3⟩:=L;refine⟨_,s',k _ _ s9,i1,i2,i4,λK k0 hK=>?_⟩;obtain⟨z,e1,e2,e3,yk⟩:=i3 K (k0+1) hK;refine⟨⟨k0,e,0,⟨[],[]⟩⟩::z,by simp[e1],by simp[e2],by simp[e3,cL],.cons (.off hg) ?_⟩;have Z:(put s.env e.dst (.val undef)).get=mO s.env.get e.dst (.val undef):=I3 _ _ _;rw[<-Z];exact yk
 | @Jw e r s f args fn d R0 R1 R hg D hf Z h h0 hr t k wx L=>
  obtain⟨rs,s',s9,i1,i2,i4,i3⟩:=L;refine⟨_,s',k _ _ s9,i1,i2,i4,λK k0 hK=>?_⟩;obtain⟨z,e1,e2,e3,yk⟩:=i3 K (k0+1) hK;refine⟨⟨k0,e,0,⟨gR s.env.get s.H e.op,[]⟩⟩::z,by simp[e1],by simp[e2],by simp[e3,cL],?_⟩;obtain⟨func,code,h1,V,t1,t2,t3,_⟩:=(hT.fn f fn hf).ex
  have hE:Ef (CC P G) s.env.get (s.H++room (K-s.H.length)) e 0 ⟨gR s.env.get s.H e.op,[]⟩ d .no:=by have e0:args.map (gq (λ_=>none) (s.H++room (K-s.H.length)) 40)=args.map (gq (λ_=>none) s.H 40):=aq λd _=>(I' 40 d).2;have:=Ef.call (C:=CC P G) (f:=s.env.get) (H:=s.H++room (K-s.H.length)) (e:=e) (n:=0) hg D (by rw[e0];exact⟨t3,wx.one h0⟩) hr;rwa [NN]at this
  refine .cons hE ?_;have Z:(put s.env e.dst d).get=mO s.env.get e.dst d:=I3 _ _ _;rw[<-Z];exact yk
 | @Jx e r s f xZ args fn d ob R0 R1 R hg iO ha hf Z h h0 hr t k wx L=>
  obtain⟨rs,s',s9,i1,i2,i4,i3⟩:=L;have E:s.H.length<=(s.H ++ [ob]).length:=by simp
  refine⟨_,s',k _ _ s9,Nat.le_trans E i1,i2,i4,λK k0 hK=>?_⟩;obtain⟨z,e1,e2,e3,yk⟩:=i3 K (k0+1) hK;have SK:Safe s.H (.new ob):=trivial;obtain⟨a1,a2⟩:=Qj (δ:=.new ob) SK K (by have:(s.H ++ [ob]).length<=K:=Nat.le_trans i1 hK;simpa[Dl.app,Al.last]using this);refine⟨⟨k0,e,s.H.length,⟨gR s.env.get s.H e.op,[(s.H.length,none)]⟩⟩::z,by simp[e1],by simp[e2],by simp[e3,cL],?_⟩;obtain⟨func,code,h1,V,t1,t2,t3,_⟩:=(hT.fn f fn hf).ex
  have hE:Ef (CC P G) s.env.get (s.H++room (K-s.H.length)) e s.H.length ⟨gR s.env.get s.H e.op,[(s.H.length,none)]⟩ (kH s.H.length d) (.new ob):=by have e0:args.map (gq (λ_=>none) (s.H++room (K-s.H.length)) 40)=args.map (gq (λ_=>none) s.H 40):=aq λd _=>(I' 40 d).2;have:=Ef.callN (C:=CC P G) (f:=s.env.get) (H:=s.H++room (K-s.H.length)) (e:=e) (n:=s.H.length) hg iO ha (by rw[e0];exact⟨t3,wx.one h0⟩) hr a2;rwa [NN]at this
  refine .cons hE ?_;have Qd:lI s.H.length (.new ob) (s.H++room (K-s.H.length))=(s.H ++ [ob])++room (K-(s.H ++ [ob]).length):=a1;show Tx (CC P G) (mO s.env.get e.dst (kH s.H.length d)) (lI s.H.length (.new ob) (s.H++room (K-s.H.length))) z _ _;rw[Qd];have Z:(put s.env e.dst (kH s.H.length d)).get=mO s.env.get e.dst (kH s.H.length d):=I3 _ _ _;rw[<-Z];exact yk
 | @Jy e r s f xZ args fn d v R0 R1 R hg iO ha hf Z hS hv gY gO h h0 hr t k wx L=>
  obtain⟨rs,s',s9,i1,i2,i4,i3⟩:=L;have E:s.H.length<=(s.H.set v .dead).length:=by simp
  refine⟨_,s',k _ _ s9,Nat.le_trans E i1,i2,i4,λK k0 hK=>?_⟩;obtain⟨z,e1,e2,e3,yk⟩:=i3 K (k0+1) hK
  have iG:v<s.H.length:=by
   unfold rowsOf at gY;split at gY
   .grind
   .cases gY
  have SK:Safe s.H (.obj v .dead):=iG;obtain⟨a1,a2⟩:=Qj (δ:=.obj v .dead) SK K (by have:(s.H.set v .dead).length<=K:=Nat.le_trans i1 hK;simpa[Dl.app]using this);refine⟨⟨k0,e,0,⟨gR s.env.get s.H e.op,[(v,none)]⟩⟩::z,by simp[e1],by simp[e2],by simp[e3,cL],?_⟩;obtain⟨func,code,h1,V,t1,t2,t3,_⟩:=(hT.fn f fn hf).ex
  have hE:Ef (CC P G) s.env.get (s.H++room (K-s.H.length)) e 0 ⟨gR s.env.get s.H e.op,[(v,none)]⟩ d (.obj v .dead):=by have e0:args.map (gq (λ_=>none) (s.H++room (K-s.H.length)) 40)=args.map (gq (λ_=>none) s.H 40):=aq λd _=>(I' 40 d).2;have e4:args.map (iF (s.H++room (K-s.H.length)) 40)=args.map (iF s.H 40):=aq λd _=>(I' 40 d).1;have:=Ef.Bf (C:=CC P G) (f:=s.env.get) (H:=s.H++room (K-s.H.length)) (e:=e) (n:=0) (v:=v) hg iO ha (by rw[e4];exact hS) (by rw[e4];exact hv) (by rw[Uh];exact gY) (by rw[e0];exact⟨t3,wx.one h0⟩) (by rw[e0];exact gO) hr;rwa [NN]at this
  refine .cons hE ?_;have Qd:lI 0 (.obj v .dead) (s.H++room (K-s.H.length))=(s.H.set v .dead)++room (K-(s.H.set v .dead).length):=a1;show Tx (CC P G) (mO s.env.get e.dst d) (lI 0 (.obj v .dead) (s.H++room (K-s.H.length))) z _ _;rw[Qd];have Z:(put s.env e.dst d).get=mO s.env.get e.dst d:=I3 _ _ _;rw[<-Z];exact yk
 | @mb jH l s R1 R t Z L=>
  obtain⟨rs,s',s9,i1,i2,i4,i3⟩:=L;obtain⟨Z,BL⟩:=Z rs s' s9;intro N code D I n Q c w a J gi B
  cases D with
  | @mb _ _ id A ord ym he ho pW=>
   obtain⟨z,e1,e2,e3,BN⟩:=i3 s'.H.length 0 (Nat.le_refl _);have Y:z.length=l.length:=by rw[<-e1];simp
   have gO:∀(ops:List Oper) (l:List ia),pL P G N A ops=some l->ops.length=l.length/\∀(i:Nat) (o:Oper) (e:ia),ops[i]? = some o->l[i]? = some e->w7 P G N A o=some e:=by
    intro ops
    induction ops with
    | nil=>intro l h;cases h;exact⟨rfl,λi o e h=>by simp at h⟩
    | cons o r Ta=>
     intro l h;obtain⟨e,l',rfl,h1,V⟩:=GJ h;obtain⟨q1,q2⟩:=Ta l' V;refine⟨by simp[q1],λi o' e' ho he=>?_⟩
     cases i with
     | zero=>simp at ho he;subst ho;subst he;exact h1
     | succ i=>exact q2 i o' e' (by simpa using ho) (by simpa using he)
   obtain⟨q1,q2⟩:=gO _ _ ym;have hA:A.size=l.length:=by rw[<-q1];simp
   have jx:∀(i:Nat) (it:nu),z[i]? = some it->it.k=i/\l[i]? = some it.e/\rs[i]? = some it.rc:=by
    intro i it hi;have gL:=(ae.1 hi).1;refine⟨?_,by rw[<-e1];simp[hi],by rw[<-e2];simp[hi]⟩;have:(z.map (·.k))[i]? = some it.k:=by simp[hi]
    rw[e3,List.getElem?_range' (by omega)]at this;simpa using this.symm
   refine wpIn_region_any hM ?_;have ri:gE G c s.H { w with drawn:=w.drawn+1 }:=gi.gi.pP (kf.drew w);have Ic:Step s.H.length c s.H w c s.H { w with drawn:=w.drawn+1 }:=C8 _ (kf.drew w)
   have SP:SX G N c { w with drawn:=w.drawn+1 } s.env.get (s.H++room (s'.H.length-s.H.length)) s.marks a:=
    ⟨abt ri _,kW.carry (λ_ _ h=>h.p7 gi.gi.toHeapOK Ic) gi.env,gi.size,gi.marks⟩
   refine Vy (C:=CC P G) (λg args d Hn h=>h) he ho A.size z _ c _ _ _ a (by omega) ?_ SP BN ?_ ?_ λc' w' U O W=>?_
   .refine⟨by simp,λj hj=>?_,?_,λit ko=>?_,λi hi hl=>?_⟩
    .refine⟨λ_=>⟨z[j]'(by omega),bV _,(jx j _ (List.getElem?_eq_getElem _)).1⟩,λ_=>by simp[hj]⟩
    .rw[bM];intro i j hi hj Cb;rw[(jx i _ (List.getElem?_eq_getElem hi)).1,(jx j _ (List.getElem?_eq_getElem hj)).1];exact Cb
    .obtain⟨i,hi⟩:=aB.1 ko;have gL:=(ae.1 hi).1;rw[(jx i it hi).1];omega
    .simp_all
   .intro it ko;obtain⟨i,hi⟩:=aB.1 ko;have gL:=(ae.1 hi).1;obtain⟨k1,k2,k3⟩:=jx i it hi;refine⟨A[i]'(by omega),by rw[k1];simp,q2 i _ _ (by simp) k2⟩
   .intro p yC q hq tf;obtain⟨i,hi⟩:=aB.1 yC;obtain⟨j,hj⟩:=aB.1 hq;obtain⟨p1,p2,p3⟩:=jx i p hi;obtain⟨TZ,T1,q3⟩:=jx j q hj;rw[p1,TZ]at tf ⊢;have gL:=(ae.1 hj).1;have:=List.all_eq_true.1 (List.all_eq_true.1 pW j (a8.2 (by omega))) i (a8.2 tf);simp only[p2,T1,b7,Bool.and_eq_true,dC]at this;rcases this with h|⟨h1,V⟩
    .exact .inl h
    .refine .inr ⟨h1,?_⟩;rcases V with V|V
     .have:=List.all_eq_true.1 Z (i,j) V;simp only[p3,q3]at this;exact this
     .obtain⟨_,_,_,_,E1⟩:=BN.each p yC;obtain⟨_,_,_,_,E2⟩:=BN.each q hq;exact abW E1 E2 V
   .simp only[b6,room,eQ,az]at O W;refine B _ c' w' U BL i4 i1 ⟨O.gi,O.env,O.size,by show sv c' s'.marks _;rw[i2];exact O.marks⟩ ?_;have h1:=Ic.trans (abu (c:=c) (w:={ w with drawn:=w.drawn+1 }) (H:=s.H) (s'.H.length-s.H.length) s.H.length) (Nat.le_refl _);exact h1.trans W (by simp)
 | @mR jH l es s R1 R t Z k L yL=>
  obtain⟨rs,s',s9,i1,i2,i4,i3⟩:=L;have Z:=Z rs s' s9;have yL:=yL rs s' s9;intro N code D I n Q c w a J gi B
  cases D with
  | @mR _ _ _ id A ord ym he ho pW Ai=>
   obtain⟨z,e1,e2,e3,BN⟩:=i3 s'.H.length 0 (Nat.le_refl _);have Y:z.length=l.length:=by rw[<-e1];simp
   obtain⟨o1,o2,RC,c1,c2⟩:=Ws ym;obtain⟨q1,q2⟩:=Wu c1;obtain⟨q3,_⟩:=Wu c2;have hA:A.size=l.length+es.length:=by rw[<-dq,RC,aj,q1,q3]
   have zY:∀i,i<l.length->A[i]? = o1[i]? := λi hi=>by rw[<-bH,RC,ah (by omega)]
   have r8:∀i,A[l.length+i]? = o2[i]? := λi=>by rw[<-bH,RC,ai (by omega)];congr 1;omega
   have jx:∀(i:Nat) (it:nu),z[i]? = some it->it.k=i/\l[i]? = some it.e/\rs[i]? = some it.rc/\i<l.length:=by
    intro i it hi;have gL:=(ae.1 hi).1;refine⟨?_,by rw[<-e1];simp[hi],by rw[<-e2];simp[hi],by omega⟩;have:(z.map (·.k))[i]? = some it.k:=by simp[hi]
    rw[e3,List.getElem?_range' (by omega)]at this;simpa using this.symm
   refine wpIn_region_any hM ?_;have ri:gE G c s.H { w with drawn:=w.drawn+1 }:=gi.gi.pP (kf.drew w);have Ic:Step s.H.length c s.H w c s.H { w with drawn:=w.drawn+1 }:=C8 _ (kf.drew w)
   have SP:SX G N c { w with drawn:=w.drawn+1 } s.env.get (s.H++room (s'.H.length-s.H.length)) s.marks a:=
    ⟨abt ri _,kW.carry (λ_ _ h=>h.p7 gi.gi.toHeapOK Ic) gi.env,gi.size,gi.marks⟩
   have yx:∀q∈(es.zipIdx l.length).map (λp=>(⟨p.2,p.1,0,⟨[],[]⟩⟩:nu)),l.length<=q.k/\q.k<l.length+es.length:=λq hq=>by grind
   have yw:((es.zipIdx l.length).map (λp=>(⟨p.2,p.1,0,⟨[],[]⟩⟩:nu))).length=es.length:=by simp
   rw[show A.size=z.length+((es.zipIdx l.length).map (λp=>(⟨p.2,p.1,0,⟨[],[]⟩⟩:nu))).length by rw[yw];omega];refine Vz (C:=CC P G) (λg args d Hn h=>h) he ho (lasts:=(es.zipIdx l.length).map λp=>⟨p.2,p.1,0,⟨[],[]⟩⟩) (ops:=o2) (λq hq k B=>Ai q.k (yx q hq).1 (by simp;exact(yx q hq).2) k B) ?_ z.length z _ c _ _ _ a rfl ?_ SP BN ?_ ?_ λc' w' U O W=>?_
   .refine bQ λi=>?_;simp only[cd,au,List.getElem?_zipIdx]
    cases h:es[i]? with
    | none=>
     have:es.length<=i:=by simpa using h
     simp[bp (l:=o2) (i:=i) (by omega)]
    | some e=>
     have:=(ae.1 h).1;simp[r8,List.getElem?_eq_getElem (l:=o2) (i:=i) (by omega)]
   .refine⟨by simp;omega,λj hj=>?_,?_,λit ko=>?_,λi hi hl=>?_⟩
    .refine⟨λ_=>?_,λ_=>by rw[yw];simp[show j<z.length+es.length by omega]⟩
     by_cases mU:j<l.length
     .exact⟨z[j]'(by omega),bk _ (bV _),(jx j _ (List.getElem?_eq_getElem _)).1⟩
     .refine⟨⟨j,es[j-l.length]'(by omega),0,⟨[],[]⟩⟩,bI _ (List.mem_map.2 ⟨(es[j-l.length]'(by omega),j),?_,rfl⟩),rfl⟩;rw[List.mem_zipIdx_iff_le_and_getElem?_sub];exact⟨by omega,by simp⟩
    .refine bn.2 ⟨?_,?_,λp yC q hq=>?_⟩
     .rw[bM];intro i j hi hj Cb;rw[(jx i _ (List.getElem?_eq_getElem hi)).1,(jx j _ (List.getElem?_eq_getElem hj)).1];exact Cb
     .rw[bM];intro i j hi hj Cb;simp;omega
     .obtain⟨i,hi⟩:=aB.1 yC;have h1:=jx i p hi;have V:=yx q hq;omega
    .rcases List.mem_append.1 ko with ko|ko
     .obtain⟨i,hi⟩:=aB.1 ko;have:=jx i it hi;omega
     .grind
    .simp_all
   .intro it ko;obtain⟨i,hi⟩:=aB.1 ko;obtain⟨k1,k2,k3,k4⟩:=jx i it hi;have h1:o1[i]? = some (o1[i]'(by omega)):=List.getElem?_eq_getElem _;exact⟨o1[i]'(by omega),by rw[k1,zY i k4,h1],q2 i _ _ h1 k2⟩
   .intro p yC q hq tf;obtain⟨i,hi⟩:=aB.1 yC;obtain⟨j,hj⟩:=aB.1 hq;obtain⟨p1,p2,p3,p4⟩:=jx i p hi;obtain⟨TZ,T1,q3,q4⟩:=jx j q hj;rw[p1,TZ]at tf ⊢;have:=List.all_eq_true.1 (List.all_eq_true.1 pW j (a8.2 (by simp;omega))) i (a8.2 tf);simp only[ah p4,ah q4,p2,T1,b7,Bool.and_eq_true,dC]at this;rcases this with h|⟨h1,V⟩
    .exact .inl h
    .refine .inr ⟨h1,?_⟩;rcases V with V|V
     .have:=List.all_eq_true.1 Z (i,j) V;simp only[p3,q3]at this;exact this
     .obtain⟨_,_,_,_,E1⟩:=BN.each p yC;obtain⟨_,_,_,_,E2⟩:=BN.each q hq;exact abW E1 E2 V
   .simp only[b6,room,eQ,az]at O W;have h1:=Ic.trans (abu (c:=c) (w:={ w with drawn:=w.drawn+1 }) (H:=s.H) (s'.H.length-s.H.length) s.H.length) (Nat.le_refl _);have V:=h1.trans W (by simp);exact yL N A o2 c2 I n Q c' w' U (by rw[i4];exact J) ⟨O.gi,O.env,O.size,by show sv c' s'.marks _;rw[i2];exact O.marks⟩ (by rw[i4];exact B.mono V i1)
 | @loop live a s R h L=>
  intro N code D I n Q c w a J gi B
  cases D with
  | loop h1=>exact apF (L (Nat.le_refl _) N _ h1 I n Q c w a J ⟨gi.gi,DO gi.env live,gi.size,gi.marks⟩ B)
 | @AE n0 live a s R1 R h k hs ue wv=>
  intro hn N code D I n Q c w a J gi B;refine aif (ue N _ D I n _ c w a J gi λo c' w' U X pz E sG W=>?_)
  cases o with
  | norm s'=>
   have YY:n0<=s'.H.length:=Nat.le_trans hn E
   have Hy:n0<=(cut n0 live s').H.length:=by
    unfold cut;split
    .exact YY
    .dsimp only;rw[PI];simp[iI]
   have u9:(cut n0 live s').ic=s.ic:=by have Oy:s'.ic=s.ic:=pz;unfold cut;split<;>exact Oy
   obtain⟨c2,nH,tm,_⟩:=Bi sG YY live;refine wv s' X Hy N _ D I n Q c2 w' U (λh=>J (by rw[<-u9];exact h)) nH ?_;rw[u9];exact B.mono ((W.weaken hn).trans tm (Nat.le_refl _)) (Nat.le_refl _)
  | exit id s'=>exact B _ c' w' U (hs _ X rfl) pz (Nat.le_trans hn E) sG (W.weaken hn)
  | ret s'=>exact B _ c' w' U (hs _ X rfl) pz (Nat.le_trans hn E) sG (W.weaken hn)
 | @oq rf live x s f first cap fn R1 R pz hx hf Z h k L=>
  intro N code D I n Q c w a J gi B;have s7:=J pz;subst s7
  cases D with
  | oq EI vO=>
   obtain⟨func,code,h1,V,t1,t2,t3,_⟩:=(hT.fn f fn hf).ex;exact apI gi EI hx t3 vO (live:=live) (R1:=Fz R1) (R:=outs R) L k B
 | @exit id s R h=>
  intro N code D I n Q c w a J gi B;cases D;exact wpIn_exit (B _ c w a h rfl (Nat.le_refl _) gi (Step.refl _ _ _ _))
 | @ret s R h=>
  intro N code D I n Q c w a J gi B;cases D;exact wpIn_ret (B _ c w a h rfl (Nat.le_refl _) gi (Step.refl _ _ _ _))
 | @call f args H fn R1 R own hf hl h k L=>
  intro c w vs gi iB;obtain⟨func,code,hs,O,t1,t2,t3,t7,t4,t5,t6⟩:=(hT.fn f fn hf).ex;have u9:=anX hT.rt t1 t2 t7;rw[t5]at u9;refine callsIn_wide (n:=0) |>.1 (callsIn_of_wp_marks (F:=FW none) t1 t2 trivial (L fn.ntmps code (Qt u9 t4) none 0 _ c w _ (λ_=>rfl) ⟨gi,aep iB _,?_,.nil⟩ ?_))
  .simp;omega
  .intro o c' w' U X pz E l4 W;obtain⟨d,H',kT,r6⟩:=k o X
   have g8:∀s:St,o.st=s->∀H1,kill s.marks s.H=some H1->∀d0,AL.results fn { s with H:=H1 }=some d0->leave own H.length H1 d0=(d,H') ->
     LeavesInM (FW none) 0 P func U.tmps (λe w'=>∃v c' d H',e = .returned v/\Fz R d H'/\H.length<=H'.length/\gE G c' H' w'/\gh c' w' v d/\Step H.length c H w c' H' w') U.defers .returning w':=by
    rintro s rfl H1 agP d0 EA agS;refine ahZ l4.marks l4.gi agP λw1 q1 q2 q3=>?_;have Oz:lu G fn.ntmps c' w1 { o.st with H:=H1,marks:=[] } { U with defers:=[] }:=⟨q1,λj=>(l4.env j).p7 l4.gi.toHeapOK q2,l4.size,.nil⟩;obtain⟨v,hv,Ij⟩:=an9 Oz t6 (d:=d0) (by rw[<-EA];exact an8 { o.st with H:=H1 } []);have r9:H.length<=H1.length:=by rw[q3];exact E
    obtain⟨c2,k1,k2,k3,k4⟩:=AD q1 r9 own Ij;rw[agS]at k1 k2 k3 k4;exact⟨v,hv,v,c2,d,H',rfl,r6,k4,k1,k2,(W.trans q2 E).trans k3 (Nat.le_refl _)⟩
   have rU:∀s:St,finish fn own H.length (.norm s)=some (d,H')->∃H1,kill s.marks s.H=some H1/\∃d0,AL.results fn { s with H:=H1 }=some d0/\leave own H.length H1 d0=(d,H'):=by
    intro s hf;simp only[finish]at hf;split at hf
    .grind
    .cases hf
   cases o with
   | norm s=>
    obtain⟨H1,q1,d0,q2,q3⟩:=rU s kT;exact g8 s rfl H1 q1 d0 q2 q3
   | ret s=>
    obtain⟨H1,q1,d0,q2,q3⟩:=rU s kT;exact g8 s rfl H1 q1 d0 q2 q3
   | exit id s=>cases kT
end
end Go.AL
namespace Go.AL
open Go
def Nz:Value->Value->Bool
 | .int k a,.int k' b=>decide (k=k')&&decide (a=b)
 | .bool a,.bool b=>a == b
 | .string a,.string b=>decide (a.data.toList=b.data.toList)
 | .nilFunc,.nilFunc=>true
 | .tuple a,.tuple b=>a.toList.isEmpty&&b.toList.isEmpty
 | _,_=>false
mutual
def pg:D->D->Bool
 | .any,.any=>true
 | .val a,.val b=>Nz a b
 | .agg a,.agg b=>tK a b
 | .tup a,.tup b=>tK a b
 | .sl n a,.sl m b=>decide (n=m)&&DP a b
 | .gg,.gg=>true
 | .fZ a b c d e,.fZ a' b' c' d' e'=>decide (a=a')&&decide (b=b')&&decide (c=c')&&decide (d=d')&&decide (e=e')
 | .ptr a b c,.ptr a' b' c'=>decide (a=a')&&decide (b=b')&&decide (c=c')
 | .gC a,.gC b=>tK a b
 | .gH a,.gH b=>decide (a=b)
 | .ja a,.ja b=>decide (a=b)
 | .fn (.func f) a b,.fn (.func f') a' b'=>decide (f=f')&&tK a a'&&tK b b'
 | _,_=>false
def tK:List D->List D->Bool
 | [],[]=>true
 | a::l,b::m=>pg a b&&tK l m
 | _,_=>false
def DP:List (List D)->List (List D)->Bool
 | [],[]=>true
 | a::l,b::m=>tK a b&&DP l m
 | _,_=>false
end
def Bo:Env->Env->Bool
 | [],[]=>true
 | (i,a)::l,(j,b)::m=>decide (i=j)&&pg a b&&Bo l m
 | _,_=>false
def DQ:List (Value×D)->List (Value×D)->Bool
 | [],[]=>true
 | (i,a)::l,(j,b)::m=>Nz i j&&pg a b&&DQ l m
 | _,_=>false
def QU:Ob->Ob->Bool
 | .row t g a,.row t' g' b=>decide (t=t')&&decide (g=g')&&tK a b
 | .map k a,.map k' b=>decide (k=k')&&DQ a b
 | .im r e s,.im r' e' s'=>decide (r=r')&&Bo e e'&&decide (s=s')
 | .sO a p,.sO b q=>decide (a.data.toList=b.data.toList)&&decide (p=q)
 | .jj m s l,.jj m' s' l'=>pg m m'&&decide (s=s')&&decide (l=l')
 | .jE,.jE=>true
 | .dead,.dead=>true
 | .lY,.lY=>true
 | _,_=>false
def Bp:U->U->Bool
 | [],[]=>true
 | a::l,b::m=>QU a b&&Bp l m
 | _,_=>false
def GR(s t:St):Bool:=Bo s.env t.env&&Bp s.H t.H&&decide (s.marks=t.marks)&&(s.ic == t.ic)
def QV:Out->Out->Bool
 | .norm s,.norm t=>GR s t
 | .exit i s,.exit j t=>decide (i=j)&&GR s t
 | .ret s,.ret t=>GR s t
 | _,_=>false
def QW(a b:D×U):Bool:=pg a.1 b.1&&Bp a.2 b.2
def once{α:Type}(b:α->α->Bool):List α->List α
 | []=>[]
 | [a]=>[a]
 | a::l=>let m:=once b l;if m.any (b a)then m else a::m
def sV{α b:Type}:List α->(α->Option (List b))->Option (List b)
 | [],_=>some []
 | [a],f=>f a
 | a::l,f=>match f a,sV l f with
  | some x,some y=>some (x++y)
  | _,_=>none
abbrev ze:=FuncId->List D->U->Option (List (D×U))
abbrev Da:=IR->St->Option (List Out)
def refsOf(s:St)(args:List D):List Nat:=dedup (args.map (iF s.H 40)).flatten
def Pw(cl:ze)(e:ia)(f:FuncId)(s:St):Option (List St):=
 match kK s.env.get e.op with
 | none=>none
 | some (f',args)=>if f'=f then(match cl f (args.map (gq (λ_=>none) s.H 40)) []with
  | some l=>sV l λp=>match after s e.dst args p.1 p.2 with
   | some s'=>some [s']
   | none=>none
  | none=>none)else none
def Ui(T:iD)(cl:ze)(e:ia)(s:St):Option (List St):=
 match kK s.env.get e.op with
 | none=>none
 | some (f,args)=>match T.fn f with
  | none=>none
  | some fn=>
   match fn.full with
   | true=>match cl f args s.H with
    | some l=>some (l.map λp=>{ s with env:=put s.env e.dst p.1,H:=p.2 })
    | none=>none
   | false=>if fn.fz&&s.marks.isEmpty && !gG args then Pw cl e f (me (refsOf s args) s)else Pw cl e f s
def Ul(T:iD)(rd:Da)(e:ia)(s:St)(v:Nat)(args:List D):Option (List St):=
 match s.H[v]? with
 | some (.im rf env0 .ready)=>match T.round rf with
  | some Rd=>if args.length=Rd.params.length then
    match rd Rd.a { env:=uC Rd.params args env0,H:=s.H,ic:=true }with
    | some b=>match sV b λo=>match o with
      | .norm s1=>match s1.H[v]? with
       | some (.im rf1 lx .ready)=>if rf1=rf then rd Rd.b { s1 with H:=s1.H.set v (.im rf lx .busy) }else none
       | _=>none
      | _=>none with
     | some a=>sV a λo=>match o.st.H[v]? with
      | some (.im rf2 lJ .busy)=>if rf2=rf then some [{ s with env:=put s.env e.dst (.b !o.stop),H:=o.st.H.set v (.im rf lJ o.AW) }]else none
      | _=>none
     | none=>none
    | none=>none
   else none
  | none=>none
 | _=>none
def Uk(e:ia)(s:St)(x:X):Option (List St):=
 match ev s.env.get x with
 | .ptr v 0 0=>match s.H[v]? with
  | some (.jj (.gH m) since seen)=>match s.H[m]? with
   | some (.map _ es)=>if es.length=since then
     let left:=(List.range es.length).filter λi => !seen.contains i
     if left.isEmpty then some [{ s with env:=put s.env e.dst (.tup [.b false]) }]else
      some (left.filterMap λi=>match es[i]? with
       | some (k,d)=>some { s with env:=put s.env e.dst (.tup [.b true,sJ k,d]),H:=s.H.set v (.jj (.gH m) since (seen ++ [i])) }
       | none=>none)
    else none
   | _=>none
  | _=>none
 | _=>none
def xJ(T:iD)(cl:ze)(rd:Da):List ia->St->Option (List St)
 | [],s=>some [s]
 | e::r,s=>match guardOf s.env.get e.guard with
  | none=>none
  | some false=>xJ T cl rd r { s with env:=put s.env e.dst (.val undef) }
  | some true=>match gP s.env.get s.H s.H.length e.op with
   | some (d,δ)=>xJ T cl rd r { s with env:=put s.env e.dst d,H:=δ.app s.H (Al.last s.H) }
   | none=>match mC s.env.get s.H s.H.length e.op with
    | some (d,δ)=>xJ T cl rd r { s with env:=put s.env e.dst d,H:=δ.app s.H (Al.last s.H) }
    | none=>match e.op with
     | .nextM x=>match Uk e s x with
      | some l=>sV l λs'=>xJ T cl rd r s'
      | none=>none
     | _=>match yieldOf s.env.get e.op with
      | some (v,args)=>match Ul T rd e s v args with
       | some l=>sV l λs'=>xJ T cl rd r s'
       | none=>none
      | none=>match kK s.env.get e.op with
       | none=>none
       | some _=>match Ui T cl e s with
        | some l=>sV l λs'=>xJ T cl rd r s'
        | none=>none
def isN:iR->Bool
 | .callN _ _=>true
 | _=>false
def y5(T:iD)(cl:ze)(st:Bool):List ia->St->Option (List Rc×St)
 | [],s=>some ([],s)
 | e::r,s=>match guardOf s.env.get e.guard with
  | none=>none
  | some false=>match y5 T cl st r { s with env:=put s.env e.dst (.val undef) }with
   | some (rs,s')=>some (⟨[],[]⟩::rs,s')
   | none=>none
  | some true=>match gP s.env.get s.H s.H.length e.op with
   | some (d,δ)=>match y5 T cl st r { s with env:=put s.env e.dst d,H:=δ.app s.H (Al.last s.H) }with
    | some (rs,s')=>some (⟨gR s.env.get s.H e.op,jV s.H.length δ⟩::rs,s')
    | none=>none
   | none=>match kK s.env.get e.op with
    | none=>none
    | some (f,args)=>match T.fn f with
     | none=>none
     | some fn=>if fn.full||(st&&fn.fz && !gG args && !isN e.op)then none else match cl f (args.map (gq (λ_=>none) s.H 40)) []with
      | some [(d,[])]=>if (if gG args then closed d else flat d)then(match y5 T cl st r { s with env:=put s.env e.dst d }with
       | some (rs,s')=>some (⟨gR s.env.get s.H e.op,[]⟩::rs,s')
       | none=>none)else(match e.op with
       | .callN _ _=>match (args.map (iF s.H 40)).flatten with
        | v::l=>if (l.all λu=>decide (u=v))&&(rowsOf s.H v).isSome&&gG (args.map (gq (λ_=>none) s.H 40))&&closed d then(match y5 T cl st r { s with env:=put s.env e.dst d,H:=s.H.set v .dead }with
         | some (rs,s')=>some (⟨gR s.env.get s.H e.op,[(v,none)]⟩::rs,s')
         | none=>none)else none
        | []=>none
       | _=>none)
      | some [(d,[ob])]=>match e.op with
       | .callN _ _=>if (if gG args then mY d&&oy ob else o3 d&&pO ob)then(match y5 T cl st r { s with env:=put s.env e.dst (kH s.H.length d),H:=s.H ++ [ob] }with
        | some (rs,s')=>some (⟨gR s.env.get s.H e.op,[(s.H.length,none)]⟩::rs,s')
        | none=>none)else none
       | _=>none
      | _=>none
def sn(T:iD)(cl:ze)(d:Nat->List Nat->IR->St->Option (List Out))(rd:Da):IR->St->Option (List Out)
 | .skip,s=>some [.norm s]
 | .ops l,s=>match xJ T cl rd l s with
  | some l=>some (l.map .norm)
  | none=>none
 | .mb jH l,s=>match y5 T cl true l s with
  | some (rs,s')=>if wE jH rs then some [.norm s']else none
  | none=>if s.marks.isEmpty then(match y5 T cl false l (me (List.range s.H.length) s)with
   | some (rs,s')=>if wE jH rs then some [.norm s']else none
   | none=>none)else none
 | .mR ..,_=>none
 | .seq a b,s=>match sn T cl d rd a s with
  | some l=>sV l λo=>match o with
   | .norm s'=>sn T cl d rd b s'
   | o=>some [o]
  | none=>none
 | .cond c a b,s=>match ev s.env.get c with
  | .val (.bool true)=>sn T cl d rd a s
  | .val (.bool false)=>sn T cl d rd b s
  | _=>none
 | .block id live a,s=>match sn T cl d rd a s with
  | some l=>some (once QV (l.map (lS id s.H.length live)))
  | none=>none
 | .loop live a,s=>d s.H.length live a { s with env:=forget live s.env }
 | .oq rf live x,s=>if s.ic then none else match ev s.env.get x with
  | .fn (.func f) first cap=>match T.fn f with
   | some fn=>if fn.full then
     match cl f (first ++ [.ja (s.H.length+1)]++cap) (s.H ++ [.jE,.im rf (forget live s.env) .ready])with
     | some l=>sV l λp=>match p.2[s.H.length+1]? with
      | some (.im rf' _ st)=>if rf'=rf then(match AP { s with H:=p.2.set (s.H.length+1) .dead,marks:=s.H.length::s.marks } st with
       | some o=>some [o]
       | none=>none)else none
      | _=>none
     | none=>none
    else none
   | none=>none
  | _=>none
 | .exit id,s=>some [.exit id s]
 | .ret,s=>some [.ret s]
 | .bad,_=>none
 | .fz _ _,_=>none
 | .vM _ _ _,_=>none
abbrev wU:=List (FuncId×List D×List (D×U))
def I7:wU->FuncId->List D->Option (List (D×U))
 | [],_,_=>none
 | (g,xZ,l)::M,f,args=>match Nat.beq g f with
  | true=>match tK xZ args with
   | true=>some l
   | false=>I7 M f args
  | false=>I7 M f args
def known(M:wU)(f:FuncId)(args:List D):U->Option (List (D×U))
 | []=>I7 M f args
 | _=>none
mutual
def CU(T:iD)(M:wU):Nat->Nat->List Nat->IR->St->Option (List Out)
 | 0,_,_,_,_=>none
 | k+1,n,live,a,s=>match sn T (run T M k) (CU T M k) (Fe T M k) a s with
  | some l=>sV l λo=>match o with
   | .norm s'=>CU T M k n live a (cut n live s')
   | o=>some [o]
  | none=>none
def Fe(T:iD)(M:wU):Nat->Da
 | 0,_,_=>none
 | k+1,c,s=>sn T (run T M k) (CU T M k) (Fe T M k) c s
def run(T:iD)(M:wU):Nat->ze
 | 0,_,_,_=>none
 | k+1,f,args,H=>match known M f args H with
  | some l=>some l
  | none=>match T.fn f with
  | none=>none
  | some fn=>if args.length<=fn.ntmps then(match sn T (run T M k) (CU T M k) (Fe T M k) fn.body { env:=uo args,H:=H }with
   | some l=>match sV l λo=>match finish fn fn.own H.length o with
     | some p=>some [p]
     | none=>none with
    | some ps=>some (once QW ps)
    | none=>none
   | none=>none)else none
end
end Go.AL
namespace Go.AL
open Go
def WV{a b:Value}(h:Nz a b=true):a=b:=by
 unfold Nz at h;split at h
 .grind
 .grind
 .rename_i a b;simp only[decide_eq_true_eq]at h
  have:a=b:=by cases a;cases b;congr 1;exact Array.ext' h
  rw[this]
 .rfl
 .grind
 .cases h
mutual
theorem GQ:∀ {a b:D},pg a b=true->a=b
 | .any,b,h=>by cases b<;>simp[pg]at h ⊢
 | .val a,b,h=>by cases b<;>simp[pg]at h ⊢;exact WV h
 | .agg a,b,h=>by cases b<;>simp[pg]at h ⊢;exact yg h
 | .tup a,b,h=>by cases b<;>simp[pg]at h ⊢;exact yg h
 | .sl n a,b,h=>by cases b<;>simp[pg]at h ⊢;exact⟨h.1,WO h.2⟩
 | .gg,b,h=>by cases b<;>simp[pg]at h ⊢
 | .l9 _,b,h=>by cases b<;>simp[pg]at h
 | .fZ a1 a2 a3 a4 a5,b,h=>by cases b<;>simp[pg]at h ⊢;simp[h]
 | .ptr a1 a2 a3,b,h=>by cases b<;>simp[pg]at h ⊢;simp[h]
 | .gC a,b,h=>by cases b<;>simp[pg]at h ⊢;exact yg h
 | .gH a,b,h=>by cases b<;>simp[pg]at h ⊢;exact h
 | .ja a,b,h=>by cases b<;>simp[pg]at h ⊢;exact h
 | .fn f a a',b,h=>by
  cases f<;>cases b<;>first|(simp[pg]at h;done)|skip
  rename_i f g b c;cases g<;>simp[pg]at h ⊢;exact⟨h.1.1,yg h.1.2,yg h.2⟩
theorem yg:∀ {a b:List D},tK a b=true->a=b
 | [],[],_=>rfl
 | a::l,b::m,h=>by simp only[tK,Bool.and_eq_true]at h;rw[GQ h.1,yg h.2]
 | [],_::_,h=>by simp[tK]at h
 | _::_,[],h=>by simp[tK]at h
theorem WO:∀ {a b:List (List D)},DP a b=true->a=b
 | [],[],_=>rfl
 | a::l,b::m,h=>by simp only[DP,Bool.and_eq_true]at h;rw[yg h.1,WO h.2]
 | [],_::_,h=>by simp[DP]at h
 | _::_,[],h=>by simp[DP]at h
end
theorem QS:∀ {a b:Env},Bo a b=true->a=b
 | [],[],_=>rfl
 | (i,a)::l,(j,b)::m,h=>by simp only[Bo,Bool.and_eq_true,decide_eq_true_eq]at h;rw[h.1.1,GQ h.1.2,QS h.2]
 | [],_::_,h=>by simp[Bo]at h
 | _::_,[],h=>by simp[Bo]at h
theorem WQ:∀ {a b:List (Value×D)},DQ a b=true->a=b
 | [],[],_=>rfl
 | (i,a)::l,(j,b)::m,h=>by simp only[DQ,Bool.and_eq_true]at h;rw[WV h.1.1,GQ h.1.2,WQ h.2]
 | [],_::_,h=>by simp[DQ]at h
 | _::_,[],h=>by simp[DQ]at h
def aeq{a b:Ob}(h:QU a b=true):a=b:=by
 unfold QU at h;split at h
 .simp only[Bool.and_eq_true,decide_eq_true_eq]at h;rw[h.1.1,h.1.2,yg h.2]
 .simp only[Bool.and_eq_true,decide_eq_true_eq]at h;rw[h.1,WQ h.2]
 .simp only[Bool.and_eq_true,decide_eq_true_eq]at h;rw[h.1.1,QS h.1.2,h.2]
 .rename_i a p b q;simp only[Bool.and_eq_true,decide_eq_true_eq]at h
  have:a=b:=by cases a;cases b;congr 1;exact Array.ext' h.1
  rw[this,h.2]
 .simp only[Bool.and_eq_true,decide_eq_true_eq]at h;rw[GQ h.1.1,h.1.2,h.2]
 .rfl
 .rfl
 .rfl
 .cases h
theorem QT:∀ {a b:U},Bp a b=true->a=b
 | [],[],_=>rfl
 | a::l,b::m,h=>by simp only[Bp,Bool.and_eq_true]at h;rw[aeq h.1,QT h.2]
 | [],_::_,h=>by simp[Bp]at h
 | _::_,[],h=>by simp[Bp]at h
def QX{a b:St}(h:GR a b=true):a=b:=by obtain⟨e,H,m,r⟩:=a;obtain⟨j,H',i,g⟩:=b;simp only[GR,Bool.and_eq_true,decide_eq_true_eq,beq_iff_eq]at h;obtain⟨⟨⟨h1,f⟩,d⟩,c⟩:=h;rw[QS h1,QT f,d,c]
def aer{a b:Out}(h:QV a b=true):a=b:=by
 unfold QV at h;split at h
 .rw[QX h]
 .simp only[Bool.and_eq_true,decide_eq_true_eq]at h;rw[h.1,QX h.2]
 .rw[QX h]
 .cases h
def aes{a b:D×U}(h:QW a b=true):a=b:=by simp only[QW,Bool.and_eq_true]at h;exact cG (GQ h.1) (QT h.2)
theorem Pe{α:Type}{d:α->α->Bool}(h:∀a b,d a b=true->a=b):∀ {l:List α} {a:α},a∈l->a∈once d l
 | [a],b,hb=>hb
 | a::b::l,c,hc=>by
  rw[once]
  .split
   .rename_i e;rcases ao.1 hc with rfl|hc
    .grind
    .exact Pe h hc
   .rcases ao.1 hc with rfl|hc
    .grind
    .exact bj _ (Pe h hc)
  .grind
theorem xY{α g:Type}{f:α->Option (List g)}:∀ {l:List α} {r:List g},sV l f=some r->∀a∈l,∃y,f a=some y/\∀b∈y,b∈r
 | [],r,_,a,ha=>by simp at ha
 | [a],r,h,b,hb=>by simp only[List.mem_singleton]at hb;subst hb;exact⟨r,h,λ_ h=>h⟩
 | a::b::l,r,h,c,hc=>by
  rw[sV]at h
  .split at h
   .rename_i x y m j;cases h;rcases ao.1 hc with rfl|hc
    .grind
    .obtain⟨z,i,e⟩:=xY j c hc;exact⟨z,i,λd k=>bI _ (e d k)⟩
   .cases h
  .grind
section
variable{T:iD}{cl:ze}{rd:Da}
def wT(l:List Out):pI->Prop:=λr=>∃o∈l,r = .out o
def F5(l:List St):pI->Prop:=λr=>∃s∈l,r = .out (.norm s)
def ln(l:List (D×U)):pI->Prop:=λr=>∃p∈l,r = .val p.1 p.2
def sq(T:iD)(cl:ze):Prop:=∀f args H l,cl f args H=some l->Ev T (.call f args H) (ln l)
def ML(T:iD)(rd:Da):Prop:=∀c s l,rd c s=some l->Ev T (.code c s) (wT l)
theorem wT.out{l:List Out}{o:Out}(h:wT l (.out o)):o∈l:=by obtain⟨o',h1,a⟩:=h;cases a;exact h1
theorem ln.val{l:List (D×U)}{d:D}{H:U}(h:ln l (.val d H)):(d,H)∈l:=by obtain⟨o',h1,a⟩:=h;cases a;exact h1
theorem F5.sub{a b:List St}(h:∀s∈a,s∈b){r:pI}(c:F5 a r):F5 b r:=by obtain⟨s,h1,d⟩:=c;exact⟨s,h s h1,d⟩
theorem wT.sub{a b:List Out}(h:∀s∈a,s∈b){r:pI}(c:wT a r):wT b r:=by obtain⟨s,h1,d⟩:=c;exact⟨s,h s h1,d⟩
theorem af9{S:List Nat}{s:St}{g:Option (Nat×Bool)}{b:Bool}(h:guardOf s.env.get g=some b):guardOf (me S s).env.get g=some b:=by
 cases g with
 | none=>exact h
 | some p=>
  simp only[guardOf,me]at h ⊢
  have e:Env.get (s.env.map λp=>(p.1,gq (iv (mE s.H S)) s.H 40 p.2)) p.1=gq (iv (mE s.H S)) s.H 40 (s.env.get p.1):=by
   generalize s.env=env
   induction env with
   | nil=>rfl
   | cons q r c=>
    obtain⟨j,d⟩:=q;simp only[List.map_cons,Env.xf];split
    .rfl
    .exact c
  rw[e];split at h
  .rename_i x a;rw[a];have:gq (iv (mE s.H S)) s.H 40 (.val (.bool x)) = .val (.bool x):=by unfold gq;rfl
   rw[this];exact h
  .rename_i vs a;rw[a];have:gq (iv (mE s.H S)) s.H 40 (.val (.tuple vs)) = .val (.tuple vs):=by unfold gq;rfl
   rw[this];exact h
  .cases h
theorem abz(p:sq T cl){e:ia}{r:List ia}{f:FuncId}{fn:jo}{s:St}{l:List St}{R:pI->Prop}(hg:guardOf s.env.get e.guard=some true)(n:T.fn f=some fn)(m:fn.full=false)
  (h:Pw cl e f s=some l) (k:∀s'∈l,Ev T (.ops r s') R):Ev T (.ops (e::r) s) R:=by
 unfold Pw at h;split at h
 .cases h
 .rename_i f' args o;split at h
  .rename_i q;subst q;split at h
   .rename_i t i;have c:=xY h;refine .Gs hg o n m (p _ _ _ _ i) (λd Hn b=>?_) λd Hn s' b j=>?_
    .obtain⟨y,a,_⟩:=c _ b.val;dsimp only at a;split at a
     .grind
     .cases a
    .obtain⟨y,a,g⟩:=c _ b.val;dsimp only at a;rw[j]at a;cases a;exact k s' (g s' (by simp))
   .cases h
  .cases h
theorem aox(c:sq T cl){e:ia}{r:List ia}{s:St}{l:List St}{R:pI->Prop}(hg:guardOf s.env.get e.guard=some true)
  (h:Ui T cl e s=some l) (k:∀s'∈l,Ev T (.ops r s') R):Ev T (.ops (e::r) s) R:=by
 unfold Ui at h;split at h
 .cases h
 .rename_i f args m;split at h
  .cases h
  .rename_i fn b;split at h
   .rename_i a;split at h
    .rename_i n i;cases h;refine .Gr hg m b a (c _ _ _ _ i) λd H' j=>k _ ?_;exact List.mem_map.2 ⟨(d,H'),j.val,rfl⟩
    .cases h
   .rename_i a;split at h
    .rename_i g;simp only[Bool.and_eq_true,eC]at g;refine .me (refsOf s args) ?_ (abz c (af9 hg) b a h k);rw[g.1.2];rfl
    .exact abz c hg b a h k
theorem aoz(g:ML T rd){e:ia}{r:List ia}{s:St}{v:Nat}{args:List D}{l:List St}{R:pI->Prop}(hg:guardOf s.env.get e.guard=some true)(x:yieldOf s.env.get e.op=some (v,args))
  (h:Ul T rd e s v args=some l) (k:∀s'∈l,Ev T (.ops r s') R):Ev T (.ops (e::r) s) R:=by
 unfold Ul at h;split at h
 .rename_i rf env0 u;split at h
  .rename_i Rd z;split at h
   .rename_i hl;split at h
    .rename_i C B;split at h
     .rename_i q f;have m:=xY f;have j:=xY h;refine .MY hg x u z hl (g _ _ _ B) (Rb:=wT q) (λo b=>?_) (λs1 i t c=>?_) (λo b=>?_) λo E b p=>?_
      .obtain⟨y,a,_⟩:=m o b.out;split at a
       .rename_i s1;split at a
        .rename_i n i c;split at a
         .rename_i A;subst A;exact⟨rfl,i,c⟩
         .cases a
        .cases a
       .cases a
      .obtain⟨y,a,d⟩:=m _ t.out;simp only[c,if_true]at a;exact(g _ _ _ a).mono λr w=>w.sub d
      .obtain⟨y,a,_⟩:=j o b.out;split at a
       .grind
       .cases a
      .obtain⟨y,a,d⟩:=j o b.out;simp only[p,if_true]at a;cases a;exact k _ (d _ (by simp))
     .cases h
    .cases h
   .cases h
  .cases h
 .cases h
theorem aoy{e:ia}{r:List ia}{s:St}{x:X}{l:List St}{R:pI->Prop}(hg:guardOf s.env.get e.guard=some true)(a:e.op = .nextM x)
  (h:Uk e s x=some l) (k:∀s'∈l,Ev T (.ops r s') R):Ev T (.ops (e::r) s) R:=by
 unfold Uk at h;split at h
 .rename_i v b;split at h
  .rename_i m since seen c;split at h
   .rename_i kk es f;split at h
    .rename_i hs;dsimp only at h;refine .next hg a b c f hs (λh0=>?_) λi kv d hi j=>?_
     .rw[if_pos]at h
      .grind
      .simp_all
     .have g:=(ae.1 hi).1;rw[if_neg]at h
      .grind
      .rw[eC,List.filter_eq_nil_iff];intro h0;have:=h0 i (by simpa using g);simp at this;exact j this
    .cases h
   .cases h
  .cases h
 .cases h
theorem Jg(b:sq T cl)(a:ML T rd):∀(l:List ia) (s:St) (r:List St),xJ T cl rd l s=some r->Ev T (.ops l s) (F5 r)
 | [],s,r,h=>by cases h;exact .nil ⟨s,by simp,rfl⟩
 | e::r,s,res,h=>by
  have f:∀ {l:List St},(sV l λs'=>xJ T cl rd r s')=some res->∀s'∈l,Ev T (.ops r s') (F5 res):=λhl s' j=>by obtain⟨y,m,i⟩:=xY hl s' j;exact(Jg b a r s' y m).mono λ_ n=>n.sub i
  simp only[xJ]at h;split at h
  .cases h
  .rename_i hg;exact .off hg (Jg b a r _ _ h)
  .rename_i hg;split at h
   .rename_i d δ c;exact .op hg c (Jg b a r _ _ h)
   .split at h
    .rename_i d δ c;exact .C1 hg c (Jg b a r _ _ h)
    .split at h
     .rename_i x k;split at h
      .rename_i l hl;exact aoy hg k hl (f h)
      .cases h
     .split at h
      .rename_i v args g;split at h
       .rename_i l hl;exact aoz a hg g hl (f h)
       .cases h
      .split at h
       .cases h
       .rename_i g;split at h
        .rename_i l hl;exact aox b hg hl (f h)
        .cases h
theorem CW(a:sq T cl)(st:Bool):∀(l:List ia) (s:St) (rs:List Rc) (s':St),y5 T cl st l s=some (rs,s')->Ev T (.trace l s) (λr=>r = .tr rs s')
 | [],s,rs,s',h=>by cases h;exact .Jz rfl
 | e::r,s,rs,s',h=>by
  simp only[y5]at h;split at h
  .cases h
  .rename_i hg;split at h
   .rename_i h1;cases h;exact .JA hg (CW a st r _ _ _ h1) λ_ _ h=>by cases h;rfl
   .cases h
  .rename_i hg;split at h
   .rename_i d δ w;split at h
    .rename_i h1;cases h;exact .JB hg w (CW a st r _ _ _ h1) λ_ _ h=>by cases h;rfl
    .cases h
   .split at h
    .cases h
    .rename_i f args p;split at h
     .cases h
     .rename_i fn o;split at h
      .cases h
      .rename_i z;have n:fn.full=false:=by grind
       split at h
       .rename_i d j
        by_cases b:(if gG args=true then closed d else flat d)=true
        .rw[if_pos b]at h;split at h
         .rename_i h1;cases h;refine .Jw hg p o n (a _ _ _ _ j) (λd' Hn i=>?_) b (CW a st r _ _ _ h1) λ_ _ h=>by cases h;rfl
          have:=i.val;simp only[List.mem_singleton,dM]at this;exact this
         .cases h
        .rw[if_neg b]at h;split at h
         .rename_i g k c;split at h
          .rename_i v l t;split at h
           .rename_i q;simp only[Bool.and_eq_true,List.all_eq_true,decide_eq_true_eq]at q;obtain⟨⟨⟨B,c2⟩,y⟩,x⟩:=q;split at h
            .rename_i h1;cases h;have m:some (g,k.map (ev s.env.get))=some (f,args):=by rw[<-p,c];rfl
             cases m;refine .Jy (v:=v) hg c rfl o n (λu A=>?_) (by rw[t];simp) c2 y (a _ _ _ _ j) (λd' Hn i=>?_) x (CW a st r _ _ _ h1) λ_ _ h=>by cases h;rfl
             .grind
             .have:=i.val;simp only[List.mem_singleton,dM]at this;exact this
            .cases h
           .cases h
          .cases h
         .cases h
       .rename_i d ob j;split at h
        .rename_i g k c
         by_cases b:(if gG args=true then mY d&&oy ob else o3 d&&pO ob)=true
         .rw[if_pos b]at h;split at h
          .rename_i h1;cases h;have m:some (g,k.map (ev s.env.get))=some (f,args):=by rw[<-p,c];rfl
           cases m;refine .Jx hg c rfl o n (a _ _ _ _ j) (λd' Hn i=>?_) b (CW a st r _ _ _ h1) λ_ _ h=>by cases h;rfl
           have:=i.val;simp only[List.mem_singleton,dM]at this;exact this
          .cases h
         .grind
        .cases h
       .cases h
theorem Uj(p:sq T cl)(D:ML T rd){B:Nat->List Nat->IR->St->Option (List Out)}(z:∀n live a s l,B n live a s=some l->Ev T (.loop n live a s) (wT l)) :
  ∀(c:IR) (s:St) (l:List Out),sn T cl B rd c s=some l->Ev T (.code c s) (wT l):=by
 intro c
 induction c with
 | skip=>intro s l h;cases h;exact .skip ⟨_,by simp,rfl⟩
 | ops ops=>
  intro s l h;simp only[sn]at h;split at h
  .rename_i t h1;cases h;refine .GG ((Jg p D _ _ _ h1).mono λr v=>?_);obtain⟨s',u,rfl⟩:=v;exact⟨_,List.mem_map.2 ⟨s',u,rfl⟩,rfl⟩
  .cases h
 | mR H ops es=>intro s l h;simp[sn]at h
 | mb H ops=>
  intro s l h;simp only[sn]at h;split at h
  .rename_i rs s' h1;split at h
   .rename_i w;cases h;exact .mb (CW p _ _ _ _ _ h1) λ_ _ h=>by cases h;exact⟨w,_,by simp,rfl⟩
   .cases h
  .split at h
   .rename_i i;split at h
    .rename_i rs s' h1;split at h
     .rename_i w;cases h;refine .G4 (List.range s.H.length) ?_ (.mb (CW p _ _ _ _ _ h1) λ_ _ h=>by cases h;exact⟨w,_,by simp,rfl⟩);rw[eC]at i;rw[i];rfl
     .cases h
    .cases h
   .cases h
 | seq a b j q=>
  intro s l h;simp only[sn]at h;split at h
  .rename_i t h1;have i:=xY h;refine .seq (j _ _ h1) (λs' u=>?_) λo m L=>?_
   .obtain⟨y,g,k⟩:=i _ u.out;exact(q _ _ g).mono λ_ v=>v.sub k
   .obtain⟨y,g,k⟩:=i _ m.out
    cases o with
    | norm=>cases L
    | exit id s'=>cases g;exact⟨_,k _ (by simp),rfl⟩
    | ret s'=>cases g;exact⟨_,k _ (by simp),rfl⟩
  .cases h
 | cond c a b j q=>
  intro s o h;simp only[sn]at h;split at h
  .rename_i A;exact .cond (x:=true) A (j _ _ h)
  .rename_i A;exact .cond (x:=false) A (q _ _ h)
  .cases h
 | block id live a j=>
  intro s l h;simp only[sn]at h;split at h
  .rename_i t h1;cases h;refine .block (j _ _ h1) λo m=>⟨_,Pe (λ_ _=>aer) (List.mem_map.2 ⟨o,m.out,rfl⟩),rfl⟩
  .cases h
 | loop live a j=>intro s o h;exact .loop (z _ _ _ _ _ h)
 | oq rf live x=>
  intro s l h;simp only[sn]at h;split at h
  .cases h
  .rename_i F;split at h
   .rename_i f first cap hx
    split at h
    .rename_i fn J;split at h
     .rename_i C;split at h
      .rename_i t I;have i:=xY h;refine .oq (by simpa using F) hx J C (p _ _ _ _ I) λd H' K=>?_;obtain⟨y,g,k⟩:=i _ K.val;dsimp only at g;split at g
       .rename_i E env st G;split at g
        .rename_i e;subst e;split at g
         .rename_i o m;cases g;exact⟨env,st,o,G,m,_,k _ (by simp),rfl⟩
         .cases g
        .cases g
       .cases g
      .cases h
     .cases h
    .cases h
   .cases h
 | exit id=>intro s o h;cases h;exact .exit ⟨_,by simp,rfl⟩
 | ret=>intro s o h;cases h;exact .ret ⟨_,by simp,rfl⟩
 | bad=>intro s o h;cases h
 | fz _ _=>intro s o h;cases h
 | vM _ _ _=>intro s o h;cases h
end
section
variable{T:iD}
def lH(T:iD)(M:wU):Prop:=∀p∈M,Ev T (.call p.1 p.2.1 []) (ln p.2.2)
theorem lH.nil(T:iD):lH T []:=λp a=>by cases a
theorem lH.cons{T:iD}{f:FuncId}{args:List D}{l:List (D×U)}{M:wU}(h:Ev T (.call f args []) (ln l))(t:lH T M):lH T ((f,args,l)::M):=λp a=>by
 rcases ao.1 a with rfl|a
 .exact h
 .exact t p a
theorem anZ{M:wU}(hM:lH T M){f:FuncId}{args:List D}{l:List (D×U)}(h:I7 M f args=some l):Ev T (.call f args []) (ln l):=by
 induction M with
 | nil=>cases h
 | cons p M i=>
  obtain⟨g,a,e⟩:=p;have d:lH T M:=λq b=>hM q (by simp[b]);simp only[I7]at h;split at h
  .rename_i hg;split at h
   .rename_i c;cases h;have:=hM (g,a,l) (by simp);rw[yg c,cz hg]at this;exact this
   .grind
  .grind
theorem abC{M:wU}(hM:lH T M):∀k:Nat,(∀n live a s l,CU T M k n live a s=some l->Ev T (.loop n live a s) (wT l))/\ML T (Fe T M k)/\sq T (run T M k)
 | 0=>⟨λ_ _ _ _ _ h=>by simp[CU]at h,λ_ _ _ h=>by simp[Fe]at h,λ_ _ _ _ h=>by simp[run]at h⟩
 | k+1=>by
  obtain⟨e,j,i⟩:=abC hM k;refine⟨λn live a s l h=>?_,λc s l h=>?_,λf args H l h=>?_⟩
  .simp only[CU]at h;split at h
   .rename_i q h1;have g:=xY h;refine .AE (Uj i j e _ _ _ h1) (λs' t=>?_) λo m z=>?_
    .obtain⟨y,b,d⟩:=g _ t.out;exact(e _ _ _ _ _ b).mono λ_ u=>u.sub d
    .obtain⟨y,b,d⟩:=g _ m.out
     cases o with
     | norm=>cases z
     | exit id s'=>cases b;exact⟨_,d _ (by simp),rfl⟩
     | ret s'=>cases b;exact⟨_,d _ (by simp),rfl⟩
   .cases h
  .simp only[Fe]at h;exact Uj i j e _ _ _ h
  .simp only[run]at h;split at h
   .rename_i q r;cases h
    cases H with
    | nil=>exact anZ hM r
    | cons=>cases r
   split at h
   .cases h
   .rename_i fn w;split at h
    .rename_i hl;split at h
     .rename_i q h1;split at h
      .rename_i ps x;cases h;have g:=xY x;refine .call fn.own w hl (Uj i j e _ _ _ h1) λo m=>?_;obtain⟨y,b,d⟩:=g _ m.out;split at b
       .rename_i p v;cases b;exact⟨p.1,p.2,v,p,Pe (λ_ _=>aes) (d _ (by simp)),rfl⟩
       .cases b
      .cases h
     .cases h
    .cases h
theorem qp{M:wU}(hM:lH T M){k:Nat}{f:FuncId}{args:List D}{H:U}{l:List (D×U)}(h:run T M k f args H=some l):Ev T (.call f args H) (ln l):=(abC hM k).2.2 f args H l h
end
end Go.AL
namespace Go.AL
open Go
@[reducible] def o(k:Nat)(op:iR):ia:={ dst:=some k,op:=op,guard:=none }
@[reducible] def u(op:iR):ia:={ dst:=none,op:=op,guard:=none }
@[reducible] def og(j:Nat)(b:Bool)(k:Nat)(op:iR):ia:={ dst:=some k,op:=op,guard:=some (j,b) }
@[reducible] def ug(j:Nat)(b:Bool)(op:iR):ia:={ dst:=none,op:=op,guard:=some (j,b) }
def Zw(n:Nat):List D:=List.replicate n (.val (.int .u32 0))
def Zb(n:Nat):List D:=List.replicate n (.val (.int .u8 0))
def DX:List D:=([1779033703,3144134277,1013904242,2773480762,1359893119,2600822924,528734635,1541459225]:List Int).map λn=>.val (.int .u32 n)
def D7:List D:=([1116352408,1899447441,3049323471,3921009573,961987163,1508970993,2453635748,2870763221,3624381080,310598401,607225278,1426881987,1925078388,2162078206,2614888103,3248222580,3835390401,4022224774,264347078,604807628,770255983,1249150122,1555081692,1996064986,2554220882,2821834349,2952996808,3210313671,3336571891,3584528711,113926993,338241895,666307205,773529912,1294757372,1396182291,1695183700,1986661051,2177026350,2456956037,2730485921,2820302411,3259730800,3345764771,3516065817,3600352804,4094571909,275423344,430227734,506948616,659060556,883997877,958139571,1322822218,1537002063,1747873779,1955562222,2024104815,2227730452,2361852424,2428436474,2756734187,3204031479,3329325298]:List Int).map λn=>.val (.int .u32 n)
def nth:List (Option jo)->Nat->Option jo
 | [],_=>none
 | a::_,0=>a
 | _::l,n+1=>nth l n
def assoc:List (Nat×qw)->Nat->Option qw
 | [],_=>none
 | (k,R)::l,n=>if k=n then some R else assoc l n
def elem(f:Nat):List Nat->Bool
 | []=>false
 | a::l=>if a=f then true else elem f l
def Gk(fn:Func):Code:=fn.body.getD .skip
def CS(P:Program)(rf:Nat):Array Tmp:=match AX P rf with
 | some (_,ps,_,_)=>ps
 | none=>#[]
def CP(P:Program)(rf:Nat):Code:=match AX P rf with
 | some (_,_,a,_)=>a
 | none=>.skip
def CQ(P:Program)(rf:Nat):Code:=match AX P rf with
 | some (_,_,_,b)=>b
 | none=>.skip
section
variable{P:Program}{G:GT}
theorem af3{f:FuncId}{fn:jo}{func:Func}{code:Code}{hs a:List (List Nat)}(h1:P.funcs[f]? = some func)(h:func.body=some code)(g:s5 P f=true)(e:(nX code).length<=64)
  (d:cC P G fn.ntmps (64*f) hs code=some (fn.body,a)) (c:func.ntmps=fn.ntmps) (b:Bd P func.results.toList=some fn.results):F1 P G f fn:=⟨⟨func,code,hs,a,h1,h,g,e,d,c,b⟩⟩
theorem CR{rf:Nat}{R:qw}{N:Nat}{ps:Array Tmp}{ac bc:Code}(d c:List (List Nat))(h1:G.rt rf=some (N,ps,ac,bc))(h:ps.toList=R.params)(g:(R.params.all λp=>decide (p<N))=true)
  (b:nX ac = []/\nX bc = []) (f:cC P G N 0 d ac=some (R.a,[])) (e:cC P G N 0 c bc=some (R.b,[])):vB P G rf R:=
 ⟨⟨N,ps,ac,bc,h1,h,g,Qt (λi x a=>by rw[b.1]at a;cases a) f,Qt (λi x a=>by rw[b.2]at a;cases a) e⟩⟩
inductive xS(P:Program)(G:GT):Nat->List (Option jo)->Prop
 | nil (k:Nat):xS P G k []
 | has {k:Nat} {fn:jo} {l:List (Option jo)} (h:F1 P G k fn) (t:xS P G (k+1) l):xS P G k (some fn::l)
 | no {k:Nat} {l:List (Option jo)} (t:xS P G (k+1) l):xS P G k (none::l)
inductive Ba(P:Program)(G:GT):List (Nat×qw)->Prop
 | nil:Ba P G []
 | cons {k:Nat} {R:qw} {l:List (Nat×qw)} (h:vB P G k R) (t:Ba P G l):Ba P G ((k,R)::l)
theorem xS.get:∀ {l:List (Option jo)} {k:Nat},xS P G k l->∀(i:Nat) (fn:jo),nth l i=some fn->F1 P G (k+i) fn:=by
 intro l k h
 induction h with
 | nil=>intro i fn hi;cases hi
 | has h t a=>
  intro i fn hi
  cases i with
  | zero=>cases hi;exact h
  | succ i=>
   have:=a i fn hi;rwa [bh,dA 1 i]at this
 | no t a=>
  intro i fn hi
  cases i with
  | zero=>cases hi
  | succ i=>
   have:=a i fn hi;rwa [bh,dA 1 i]at this
theorem Ba.get{l:List (Nat×qw)}(h:Ba P G l):∀(i:Nat) (R:qw),assoc l i=some R->vB P G i R:=by
 induction h with
 | nil=>intro i R hi;cases hi
 | @cons k b l h t a=>
  intro i R hi;simp only[assoc]at hi;split at hi
  .rename_i e;subst e;cases hi;exact h
  .exact a i R hi
theorem apq{l:List (Option jo)}{r:List (Nat×qw)}{a:FuncId->Option Nat}(d:G.rt=AX P)(h:xS P G 0 l)(j:Ba P G r){b:FuncId->Bool}(i:∀f sz,a f=some sz->xX P f sz)(g:∀f,b f=true->Bb P f){c:FuncId->Bool}(e:∀f,c f=true->A5 P f):Qc P G { fn:=nth l,round:=assoc r,sort:=a,tz:=b,sZ:=c } where
 sort:=i
 tz:=g
 sZ:=e
 rt:=d
 fn f fn hf:=by have:=h.get f fn hf;rwa [aR]at this
 round:=j.get
