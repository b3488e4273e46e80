/- 7 -/
import Derived.Test.YtmehofoficaelaaGreatDoorP06
import Derived.KernelRfl
set_option linter.all false
open Bool renaming and_eq_true→aE,true→ej,false→eL
open Option renaming some→bf,none→cc
open List renaming getElem?_eq_getElem→cp,all_eq_true→dx,mem_singleton→eK,getElem?_range'→fp,range→ga,replicate→gb,length→List.l
open Nat renaming le_refl→di,le_trans→ep
open Go renaming FuncId→eh,Oper→ek,Program→er,wpListIn→ez,World→eB,Value→fa,Act→fb,wpIn_region_any→fx
namespace Go.AL
open Go
def CC(P:er)(G:GT)(g:eh)(args:List D)(d:D)(Hn:gQ):Prop:=uW P g=ej/\A4 P G g args [] d Hn
def outs(R:rW->Prop):Out->Prop:=λo=>R (.out o)
def Ib(R:rW->Prop):D->gQ->Prop:=λd H=>R (.val d H)
def Good(P:er)(G:GT):CR->(rW->Prop)->Prop
 | .ops l s,R=>∀(N:Nat) (A:Array ek) (ops:List ek),rZ P G N A ops=bf l ->
   ∀(d:Option Nat) (n:Nat) (Q:Exit->fb->eB->Prop) (c:Ctx) (w:eB) (a:fb),(s.iI=eL->d=cc)->mA G N c w s a->zG G N s.H.l s.iI c s.H w (outs R) Q->ez (FW d) n P A Q ops a w
 | .code ir s,R=>∀(N:Nat) (code:Code),pL P G N ir code ->
   ∀(d:Option Nat) (n:Nat) (Q:Exit->fb->eB->Prop) (c:Ctx) (w:eB) (a:fb),(s.iI=eL->d=cc)->mA G N c w s a->zG G N s.H.l s.iI c s.H w (outs R) Q->code.wpIn (FW d) n P Q a w
 | .loop n0 _ ir s,R=>n0<=s.H.l->∀(N:Nat) (code:Code),pL P G N ir code ->
   ∀(d:Option Nat) (n:Nat) (Q:Exit->fb->eB->Prop) (c:Ctx) (w:eB) (a:fb),(s.iI=eL->d=cc)->mA G N c w s a->zG G N n0 s.iI c s.H w (outs R) Q->Ps (FW d) n P code Q a w
 | .call f args H,R=>xA P G f args H (Ib R)
 | .trace l s,R=>∃rs s',R (.tr rs s')/\s.H.l<=s'.H.l/\s'.marks=s.marks/\s'.iI=s.iI/\∀(K k0:Nat),s'.H.l<=K->∃b:List oh,b.map (·.e)=l/\b.map (·.rc)=rs/\b.map (·.k)=List.range' k0 l.l /\
   Tx (CC P G) s.env.get (s.H++room (K-s.H.l)) b s'.env.get (s'.H++room (K-s'.H.l))
section
variable{P:er}{G:GT}{T:jt}
theorem zG.mono{N n m:Nat}{iI:Bool}{c b:Ctx}{H H1:gQ}{w w1:eB}{R:Out->Prop}{Q:Exit->fb->eB->Prop}(h:zG G N n iI c H w R Q)(hs:Step n c H w b H1 w1)(a:n<=m):zG G N m iI b H1 w1 R Q:=
 λo c' w' g f e hl gW d=>h o c' w' g f e (ep a hl) gW (hs.trans d a)
theorem Jo{N:Nat}{A:Array ek}{o:ek}{r:List ek}{l:List jb}(h:rZ P G N A (o::r)=bf l) :
  ∃e a,l=e::a/\yT P G N A o=bf e/\rZ P G N A r=bf a:=by
 simp only[rZ]at h;split at h
 .grind
 .cases h
theorem ag6{N:Nat}{A:Array ek}{ops:List ek}(h:rZ P G N A ops=bf []):ops = []:=by
 cases ops with
 | nil=>rfl
 | cons o r=>
  obtain⟨e,a,h1,_⟩:=Jo h;cases h1
theorem ZZ{N:Nat}{A:Array ek}:∀ {l es:List jb} {ops:List ek},rZ P G N A ops=bf (l++es)->∃b a,ops=b++a/\rZ P G N A b=bf l/\rZ P G N A a=bf es
 | [],es,ops,h=>⟨[],ops,rfl,rfl,h⟩
 | e::l,es,ops,h=>by
  cases ops with
  | nil=>cases h
  | cons o r=>
   obtain⟨j,i,h1,g,f⟩:=Jo h;cases h1;obtain⟨b,a,rfl,d,c⟩:=ZZ f;exact⟨o::b,a,rfl,by simp only[rZ,g,d],c⟩
theorem Z0{N:Nat}{A:Array ek}:∀ {ops:List ek} {l:List jb},rZ P G N A ops=bf l->ops.l=l.l/\∀(i:Nat) (o:ek) (e:jb),ops[i]? = bf o->l[i]? = bf e->yT P G N A o=bf e:=by
 intro ops
 induction ops with
 | nil=>intro l h;cases h;exact⟨rfl,λi o e h=>by simp at h⟩
 | cons o r f=>
  intro l h;obtain⟨e,g,rfl,h1,c⟩:=Jo h;obtain⟨q1,q2⟩:=f c;refine⟨by simp[q1],λi o' d a b=>?_⟩
  cases i with
  | zero=>simp at a b;subst a;subst b;exact h1
  | succ i=>exact q2 i o' d (by simpa using a) (by simpa using b)
theorem Dc{N:Nat}{A:Array ek}{ops:List ek}{e:jb}{l:List jb}(h:rZ P G N A ops=bf (e::l)) :
  ∃o r,ops=o::r/\yT P G N A o=bf e/\rZ P G N A r=bf l:=by
 cases ops with
 | nil=>cases h
 | cons o r=>
  obtain⟨d,c,h1,b,a⟩:=Jo h;cases h1;exact⟨o,r,rfl,b,a⟩
theorem afn{N:Nat}{c:Ctx}{w:eB}{s:St}{a:fb}{b:Option Nat}{n:Nat}{o:ek}{g:jG}{f:eh}{args:List D}{next:fb->eB->Prop}{Q:Exit->fb->eB->Prop}(hs:mA G N c w s a)(j:pv P G o=bf g)
  (x:vQ N o.dst=ej) (p:lZ s.env.get g=bf (f,args)) (m:uW P f=ej) {R:D->gQ->Prop}
  (q:∀vs:List fa,kF c w vs args->Calls P f vs.toArray w λe w'=>∃v c' d H',e = .returned v/\R d H'/\iy G c' H' w'/\gX c' w' v d/\Step s.H.l c s.H w c' H' w')
  (k:∀d H' c' w' l,R d H'->mA G N c' w' { s with env:=put s.env o.dst d,H:=H' } l->Step s.H.l c s.H w c' H' w'->next l w'):o.wpIn (FW b) n P a w next Q:=by
 obtain⟨vs,r,t⟩:=Sq hs.gW hs.env j p m;refine⟨λ_ _=>trivial,?_⟩;rw[Oper.semAt_plain (FW b) a.eval o (EG j),r];refine⟨λh=>by simp[Fence.wide]at h,Jc.2 ((q vs t).mono ?_)⟩;rintro e w' ⟨v,c',d,H',rfl,y,gW,u,i⟩;exact k d H' c' w' _ y (hs.next gW i x u) i
theorem afM{s s1:St}{dst:Option Nat}{args:List D}{r:D}{Hn:gQ}(h:after s dst args r Hn=bf s1) :
  (if iB args then oC r&&Hn.all pP else rl r&&Hn.all r8)=ej/\s1 = { s with env:=put s.env dst (lL s.H.l r),H:=s.H++Hn }:=by
 unfold after at h;generalize (if iB args=ej then oC r&&Hn.all pP else rl r&&Hn.all r8)=b at h;cases b
 .cases h
 .grind
theorem adY{P:er}{G:GT}{o:ek}{b:jG}(a:pv P G o=bf b):SE b=false:=by
 unfold pv at a;split at a
 all_goals try simp only[aB,ag,aL]at a
 all_goals (repeat' first|(obtain⟨_,_,a⟩:=a)|split at a|simp only[ag]at a)
 all_goals first|rfl|(cases a;done)|(cases a;rfl)|(split<;>rfl)
theorem ar0{P:er}{G:GT}{o:ek}{x:X}(a:pv P G o=bf (.nextM x)):False:=by have:=adY a;cases this
theorem ar1{P:er}{G:GT}{o:ek}{a:jG}(b:pv P G o=bf a){f:iM}{H:gQ}{n:Nat}{r:D×Dl}(h:nW f H n a=bf r):False:=by have:=adY b;cases a<;>first|(cases h;done)|(cases this;done)
theorem ass{fn:kn}(s:St)(ms:List Nat):AL.results fn { s with marks:=ms }=AL.results fn s:=by
 have h1:∀x,HH { s with marks:=ms } x=HH s x:=λx=>by cases x<;>rfl
 have b:∀l,xu { s with marks:=ms } l=xu s l:=by
  intro l
  induction l with
  | nil=>rfl
  | cons x r a=>simp only[xu,h1,a]
 simp only[AL.results,b]
theorem ajD(hM:P.follows .mixedOrders=ej)(hT:S4 P G T){j:CR}{R:rW->Prop}(h:Ev T j R):Good P G j R:=by
 induction h with
 | @mono j R R' h hi L=>
  cases j with
  | ops l s=>exactλN A ops D I n Q c w a J hs B=>L N A ops D I n Q c w a J hs λo c' w' W Y=>B o c' w' W (hi _ Y)
  | code ir s=>exactλN code D I n Q c w a J hs B=>L N code D I n Q c w a J hs λo c' w' W Y=>B o c' w' W (hi _ Y)
  | loop n0 live ir s=>exactλhn N code D I n Q c w a J hs B=>L hn N code D I n Q c w a J hs λo c' w' W Y=>B o c' w' W (hi _ Y)
  | call f args H=>exactλc w vs h1 V=>(L c w vs h1 V).mono λ_ _ ⟨v,c',d,H',he,Y,r⟩=>⟨v,c',d,H',he,hi _ Y,r⟩
  | trace l s=>
   obtain⟨rs,s',h1,V⟩:=L;exact⟨rs,s',hi _ h1,V⟩
 | @sort f g fn sz v gen t H R α fc l cf hs hg hl iD h0 y7 G6 tr nt D hv k ya=>
  obtain⟨func,code,h1,V,t1,t2,t3,_⟩:=(hT.fn g fn hg).ex;exact aty (hT.sort f sz hs) t3 fc l hl iD h0 y7 cf G6 tr nt (λx hx y hy c w vs h1 V=>(ya x hx y hy c w vs h1 V).mono λ_ _ ⟨v,c',d,H',he,Y,r⟩=>⟨v,c',d,H',he,by obtain⟨_,e⟩:=Y;cases e;rfl,r⟩) hv k
 | @HU f sz x H R hs k=>exact atx (hT.sort f sz hs) (f:=f) (g:=0) k
 | @vI f v gen t H R l hs h0 y7 hv k=>exact atA (hT.vI f hs) l h0 y7 hv k
 | @uV f v gen t zs H R l i hs hi hv k=>exact aho (hT.uV f hs) l i hi hv k
 | @nil s R h=>
  intro N A ops D I n Q c w a J hs B;rw[ag6 D];exact B _ c w a h rfl (di _) hs (Step.refl _ _ _ _)
 | @op e r s d δ R hg h t L=>
  have E:s.H.l<=(δ.app s.H (Al.last s.H)).l:=Ta δ s.H;intro N A ops D I n Q c w a J hs B;obtain⟨o,r',rfl,ho,pG⟩:=Dc D;obtain⟨s1,s2,s3,s4⟩:=Br ho;have hw:=xx hs.env s4 hg;simp only[ez,hw,if_true];have s1:=ZT s1 h;refine aug hs s1 s3 (o7.last s.H) h λc' w' W O X=>?_;rw[<-s2]at O;exact L N A r' pG I n Q c' w' W J O (B.mono X E)
 | @E4 e r s d δ R hg h t L=>
  have E:s.H.l<=(δ.app s.H (Al.last s.H)).l:=Ta δ s.H;intro N A ops D I n Q c w a J hs B;obtain⟨o,r',rfl,ho,pG⟩:=Dc D;obtain⟨s1,s2,s3,s4⟩:=Br ho;have hw:=xx hs.env s4 hg;simp only[ez,hw,if_true];have s1:=s1.resolve_left λV=>ar1 V h;refine aui hs s1 s3 (o7.last s.H) h λc' w' W O X=>?_;rw[<-s2]at O;exact L N A r' pG I n Q c' w' W J O (B.mono X E)
 | @off e r s R hg t L=>
  intro N A ops D I n Q c w a J hs B;obtain⟨o,r',rfl,ho,pG⟩:=Dc D;obtain⟨s1,s2,s3,s4⟩:=Br ho;have hw:=xx hs.env s4 hg;simp only[ez,hw,bQ,if_false];refine⟨λ_ _=>trivial,?_⟩;have O:=hs.next hs.gW (Step.refl _ _ _ _) s3 (v:=undef) (d:=.val undef) (.val _)
  rw[<-s2]at O;rw[<-s2];exact L N A r' pG I n Q c w _ J (by rw[s2]at O ⊢;exact O) B
 | @mC l s R S hm t L=>
  have Z:(mC S s).H.l=s.H.l:=T';intro N A ops D I n Q c w a J hs B;obtain⟨c',O,X,_⟩:=abm hs S;refine L N A ops D I n Q c' w a J O ?_;rw[Z];exact B.mono X (di _)
 | @JF code s R S hm t L=>
  have Z:(mC S s).H.l=s.H.l:=T';intro N code D I n Q c w a J hs B;obtain⟨c',O,X,_⟩:=abm hs S;refine L N code D I n Q c' w a J O ?_;rw[Z];exact B.mono X (di _)
 | @T7 l s R live t L=>
  intro N A ops D I n Q c w a J hs B;exact L N A ops D I n Q c w a J ⟨hs.gW,F4 hs.env live,hs.size,hs.marks⟩ B
 | @F9 code s R live t L=>
  intro N code D I n Q c w a J hs B;exact L N code D I n Q c w a J ⟨hs.gW,F4 hs.env live,hs.size,hs.marks⟩ B
 | @Jb e r s f args fn R1 R hg D hf hp h ha t ya L=>
  intro N A ops se I n Q c w a J hs B;obtain⟨o,r',rfl,ho,pG⟩:=Dc se;obtain⟨s1,s2,s3,s4⟩:=Br ho;have hw:=xx hs.env s4 hg;simp only[ez,hw,if_true];obtain⟨func,code,h1,V,t1,t2,t3,_⟩:=(hT.fn f fn hf).ex
  have ky:∀d Hn,Ib R1 d Hn->(if iB args then oC d&&Hn.all pP else rl d&&Hn.all r8)=ej/\after s e.dst args d Hn=bf { s with env:=put s.env e.dst (lL s.H.l d),H:=s.H++Hn }:=λd Hn Y=>by obtain⟨s',O⟩:=dJ.1 (ha d Hn Y);obtain⟨k1,rfl⟩:=afM O;exact⟨k1,O⟩
  have s1:=Jk s1 D;refine afn hs s1 s3 D t3 (R:=λd H'=>∃d0 Hn,Ib R1 d0 Hn/\d=lL s.H.l d0/\H'=s.H++Hn) (λvs jh=>(asa hs.gW jh ya λd Hn Y=>(ky d Hn Y).1).mono ?_) ?_
  .grind
  .rintro d H' c' w' W ⟨d0,Hn,Y,rfl,rfl⟩ O X;rw[<-s2]at O;exact L d0 Hn _ Y (ky d0 Hn Y).2 N A r' pG I n Q c' w' W J O (B.mono X gP)
 | @Ja e r s f args fn R1 R hg D hf hp h t ya L=>
  intro N A ops se I n Q c w a J hs B;obtain⟨o,r',rfl,ho,pG⟩:=Dc se;obtain⟨s1,s2,s3,s4⟩:=Br ho;have hw:=xx hs.env s4 hg;simp only[ez,hw,if_true];obtain⟨func,code,h1,V,t1,t2,t3,_⟩:=(hT.fn f fn hf).ex;have s1:=Jk s1 D;refine afn hs s1 s3 D t3 (R:=λd H'=>Ib R1 d H'/\s.H.l<=H'.l) (λvs jh=>(ya c w vs hs.gW jh).mono ?_) ?_
  .grind
  .rintro d H' c' w' W ⟨Y,E⟩ O X;rw[<-s2]at O;exact L d H' Y N A r' pG I n Q c' w' W J O (B.mono X E)
 | @PF e r s v args rf env0 Rd Ra Rb R hg D hv Y hl ha hn hb hm t sM zk yd=>
  intro N A ops se I n Q c w a J hs B;obtain⟨o,r',rfl,ho,pG⟩:=Dc se;obtain⟨s1,s2,s3,s4⟩:=Br ho;have hw:=xx hs.env s4 hg;simp only[ez,hw,if_true];obtain⟨M,ps,ac,bc,xN,GN,iA,UN,q'⟩:=(hT.round rf Rd Y).ex;rw[<-GN]at hl sM iA
  have s1:=s1.resolve_right λV=>by
   have:=TA V;unfold yieldOf at D;split at D
   .rename_i p5;rw[p5]at this;cases this
   .cases D
  refine auj hs s1 s3 D hv xN (by simpa using hl) (λp hp=>by simpa using dx.1 iA p hp) (Ra:=outs Ra) (Rb:=outs Rb) ?_ hn ?_ hm ?_
  .exact λI n Q c w a O kh=>sM M ac UN I n Q c w a (λh=>by cases h) O kh
  .intro s1 mB BL rM nC I n Q c w a O kh;have:=zk s1 mB BL nC M bc q' I n Q c w a (λh=>by simp[rM]at h) O;simp only[av,rM]at this;exact this kh
  .intro q mO c' w' W u9 rO E O X;rw[<-s2]at O;exact yd q mO u9 rO N A r' pG I n Q c' w' W J O (B.mono X (by simpa using E))
 | @next e r s x v m since seen kk es R hg jB hx hv hm qh h0 h1 p0 wB=>
  intro N A ops se I n Q c w a J hs B;obtain⟨o,r',rfl,ho,pG⟩:=Dc se;obtain⟨s1,s2,s3,s4⟩:=Br ho;have hw:=xx hs.env s4 hg;simp only[ez,hw,if_true];rw[jB]at s1;have s1:=s1.resolve_left λV=>ar0 V;refine auf hs s1 s3 hx hv hm qh ?_ ?_
  .intro jm c' w' W O X;rw[<-s2]at O;exact p0 jm N A r' pG I n Q c' w' W J O (B.mono X (di _))
  .intro i k d hi Vj c' w' W O X;rw[<-s2]at O;exact wB i k d hi Vj N A r' pG I n Q c' w' W J O (B.mono X gP)
 | @skip s R h=>
  intro N code D I n Q c w a J gW B;cases D;exact wpIn_skip (B _ c w a h rfl (di _) gW (Step.refl _ _ _ _))
 | @Jn l s R h L=>
  intro N code D I n Q c w a J gW B
  cases D with
  | ops h=>exact wpIn_region_list (L N _ _ h I n Q c w a J gW B)
 | @seq a b s R1 R h k hs wB x9=>
  intro N code D I n Q c w a J gW B
  cases D with
  | seq h1 V=>
   refine wpIn_seq (wB N _ h1 I n _ c w a J gW λo c' w' W Y rM E uz X=>?_)
   cases o with
   | norm s'=>
    have Rj:s'.iI=s.iI:=rM;refine x9 s' Y N _ V I n Q c' w' W (λh=>J (by rw[<-Rj];exact h)) uz ?_;rw[Rj];exact B.mono X E
   | exit id s'=>exact B _ c' w' W (hs _ Y rfl) rM E uz X
   | ret s'=>exact B _ c' w' W (hs _ Y rfl) rM E uz X
 | @cond c a b s x R D h L=>
  intro N code se I n Q c w a J gW B
  cases se with
  | @cond cx ca cb _ _ _ hx h1 V=>
   have hr:=jH gW.gW gW.env hx;rw[D]at hr
   have he:a.eval cx = .bool x:=by generalize a.eval cx=u at hr;cases hr;rfl
   refine wpIn_cond he ?_;cases x
   .exact L N _ V I n Q c w a J gW B
   .exact L N _ h1 I n Q c w a J gW B
 | @block id live a s R1 R h k L=>
  have Z:∀s':St,s.H.l<=s'.H.l->s.H.l<=(cut s.H.l live s').H.l:=by
   intro s' h1;unfold cut;split
   .exact h1
   .dsimp only;rw[Sy];simp[jx]
  have l1:∀s':St,(cut s.H.l live s').iI=s'.iI:=by intro s';unfold cut;split<;>rfl
  intro N code D I n Q c w a J gW B
  cases D with
  | block h1=>
   refine wpIn_block (L N _ h1 I n _ c w a J gW λo c' w' W Y rM E uz X=>?_);have pC:=k o Y
   cases o with
   | norm s'=>
    obtain⟨c2,o5,vq,_⟩:=Dd uz E live;exact B (.norm (cut s.H.l live s')) c2 w' W pC ((l1 s').trans rM) (Z s' E) o5 (X.trans vq (di _))
   | exit Ci s'=>
    by_cases Aj:Ci=id
    .subst Aj;obtain⟨c2,o5,vq,_⟩:=Dd uz E live;simp only[mX,if_true]at pC;have:=B (.norm (cut s.H.l live s')) c2 w' W pC ((l1 s').trans rM) (Z s' E) o5 (X.trans vq (di _));simp only[Out.ex,Exit.inBlock,if_true]at this ⊢;exact this
    .simp only[mX,if_neg Aj]at pC;have:=B _ c' w' W pC rM E uz X;simp only[Out.ex,Exit.inBlock,if_neg Aj]at this ⊢;exact this
   | ret s'=>exact B _ c' w' W pC rM E uz X
 | @Mg s R Y=>
  exact⟨[],s,Y,di _,rfl,rfl,λK k0 hK=>⟨[],rfl,rfl,rfl,.nil⟩⟩
 | @Mi e r s d δ R1 R hg h t k L=>
  obtain⟨rs,s',u7,i1,i2,i4,i3⟩:=L;refine⟨_,s',k _ _ u7,ep (Ta δ s.H) i1,i2,i4,λK k0 hK=>?_⟩;obtain⟨z,e1,e2,e3,Ad⟩:=i3 K (k0+1) hK;obtain⟨a1,a2⟩:=Tb (afT h) K (ep i1 hK);refine⟨⟨k0,e,s.H.l,⟨iO s.env.get s.H e.op,kX s.H.l δ⟩⟩::z,by simp[e1],by simp[e2],by simp[e3,cE],?_⟩
  have hE:Ef (CC P G) s.env.get (s.H++room (K-s.H.l)) e s.H.l ⟨iO s.env.get s.H e.op,kX s.H.l δ⟩ d δ:=by have:=Ef.op (C:=CC P G) (f:=s.env.get) (H:=s.H++room (K-s.H.l)) (e:=e) (n:=s.H.l) hg (by rw[afS];exact h) a2;rwa [Qr]at this
  refine .cons hE ?_;rw[a1];have hp:(put s.env e.dst d).get=oE s.env.get e.dst d:=Lw _ _ _;rw[<-hp];exact Ad
 | @Mh e r s R1 R hg t k L=>
  obtain⟨rs,s',u7,i1,i2,i4,i3⟩:=L;refine⟨_,s',k _ _ u7,i1,i2,i4,λK k0 hK=>?_⟩;obtain⟨z,e1,e2,e3,Ad⟩:=i3 K (k0+1) hK;refine⟨⟨k0,e,0,⟨[],[]⟩⟩::z,by simp[e1],by simp[e2],by simp[e3,cE],.cons (.off hg) ?_⟩;have hp:(put s.env e.dst (.val undef)).get=oE s.env.get e.dst (.val undef):=Lw _ _ _;rw[<-hp];exact Ad
 | @Md e r s f args fn d R0 R1 R hg D hf hp h h0 hr t k ya L=>
  obtain⟨rs,s',u7,i1,i2,i4,i3⟩:=L;refine⟨_,s',k _ _ u7,i1,i2,i4,λK k0 hK=>?_⟩;obtain⟨z,e1,e2,e3,Ad⟩:=i3 K (k0+1) hK;refine⟨⟨k0,e,0,⟨iO s.env.get s.H e.op,[]⟩⟩::z,by simp[e1],by simp[e2],by simp[e3,cE],?_⟩;obtain⟨func,code,h1,V,t1,t2,t3,_⟩:=(hT.fn f fn hf).ex
  have hE:Ef (CC P G) s.env.get (s.H++room (K-s.H.l)) e 0 ⟨iO s.env.get s.H e.op,[]⟩ d .no:=by have e0:args.map (ib (λ_=>cc) (s.H++room (K-s.H.l)) 40)=args.map (ib (λ_=>cc) s.H 40):=au λd _=>(LK 40 d).2;have:=Ef.call (C:=CC P G) (f:=s.env.get) (H:=s.H++room (K-s.H.l)) (e:=e) (n:=0) hg D (by rw[e0];exact⟨t3,ya.one h0⟩) hr;rwa [Qr]at this
  refine .cons hE ?_;have hp:(put s.env e.dst d).get=oE s.env.get e.dst d:=Lw _ _ _;rw[<-hp];exact Ad
 | @Me e r s f zN args fn d ob R0 R1 R hg jB ha hf hp h h0 hr t k ya L=>
  obtain⟨rs,s',u7,i1,i2,i4,i3⟩:=L;have E:s.H.l<=(s.H ++ [ob]).l:=gP;refine⟨_,s',k _ _ u7,ep E i1,i2,i4,λK k0 hK=>?_⟩;obtain⟨z,e1,e2,e3,Ad⟩:=i3 K (k0+1) hK;have Vx:Safe s.H (.new ob):=trivial;obtain⟨a1,a2⟩:=Tb (δ:=.new ob) Vx K (by have:(s.H ++ [ob]).l<=K:=ep i1 hK;simpa[Dl.app,Al.last]using this);refine⟨⟨k0,e,s.H.l,⟨iO s.env.get s.H e.op,[(s.H.l,cc)]⟩⟩::z,by simp[e1],by simp[e2],by simp[e3,cE],?_⟩;obtain⟨func,code,h1,V,t1,t2,t3,_⟩:=(hT.fn f fn hf).ex
  have hE:Ef (CC P G) s.env.get (s.H++room (K-s.H.l)) e s.H.l ⟨iO s.env.get s.H e.op,[(s.H.l,cc)]⟩ (lL s.H.l d) (.new ob):=by have e0:args.map (ib (λ_=>cc) (s.H++room (K-s.H.l)) 40)=args.map (ib (λ_=>cc) s.H 40):=au λd _=>(LK 40 d).2;have:=Ef.callN (C:=CC P G) (f:=s.env.get) (H:=s.H++room (K-s.H.l)) (e:=e) (n:=s.H.l) hg jB ha (by rw[e0];exact⟨t3,ya.one h0⟩) hr a2;rwa [Qr]at this
  refine .cons hE ?_;have S5:mN s.H.l (.new ob) (s.H++room (K-s.H.l))=(s.H ++ [ob])++room (K-(s.H ++ [ob]).l):=a1;show Tx (CC P G) (oE s.env.get e.dst (lL s.H.l d)) (mN s.H.l (.new ob) (s.H++room (K-s.H.l))) z _ _;rw[S5];have hp:(put s.env e.dst (lL s.H.l d)).get=oE s.env.get e.dst (lL s.H.l d):=Lw _ _ _;rw[<-hp];exact Ad
 | @Mf e r s f zN args fn d v R0 R1 R hg jB ha hf hp hS hv iX iD h h0 hr t k ya L=>
  obtain⟨rs,s',u7,i1,i2,i4,i3⟩:=L;have E:s.H.l<=(s.H.set v .dead).l:=gP;refine⟨_,s',k _ _ u7,ep E i1,i2,i4,λK k0 hK=>?_⟩;obtain⟨z,e1,e2,e3,Ad⟩:=i3 K (k0+1) hK
  have ju:v<s.H.l:=by
   unfold rowsOf at iX;split at iX
   .grind
   .cases iX
  have Vx:Safe s.H (.obj v .dead):=ju;obtain⟨a1,a2⟩:=Tb (δ:=.obj v .dead) Vx K (by have:(s.H.set v .dead).l<=K:=ep i1 hK;simpa[Dl.app]using this);refine⟨⟨k0,e,0,⟨iO s.env.get s.H e.op,[(v,cc)]⟩⟩::z,by simp[e1],by simp[e2],by simp[e3,cE],?_⟩;obtain⟨func,code,h1,V,t1,t2,t3,_⟩:=(hT.fn f fn hf).ex
  have hE:Ef (CC P G) s.env.get (s.H++room (K-s.H.l)) e 0 ⟨iO s.env.get s.H e.op,[(v,cc)]⟩ d (.obj v .dead):=by have e0:args.map (ib (λ_=>cc) (s.H++room (K-s.H.l)) 40)=args.map (ib (λ_=>cc) s.H 40):=au λd _=>(LK 40 d).2;have e4:args.map (jq (s.H++room (K-s.H.l)) 40)=args.map (jq s.H 40):=au λd _=>(LK 40 d).1;have:=Ef.C' (C:=CC P G) (f:=s.env.get) (H:=s.H++room (K-s.H.l)) (e:=e) (n:=0) (v:=v) hg jB ha (by rw[e4];exact hS) (by rw[e4];exact hv) (by rw[Xb];exact iX) (by rw[e0];exact⟨t3,ya.one h0⟩) (by rw[e0];exact iD) hr;rwa [Qr]at this
  refine .cons hE ?_;have S5:mN 0 (.obj v .dead) (s.H++room (K-s.H.l))=(s.H.set v .dead)++room (K-(s.H.set v .dead).l):=a1;show Tx (CC P G) (oE s.env.get e.dst d) (mN 0 (.obj v .dead) (s.H++room (K-s.H.l))) z _ _;rw[S5];have hp:(put s.env e.dst d).get=oE s.env.get e.dst d:=Lw _ _ _;rw[<-hp];exact Ad
 | @np kJ l s R1 R t hp L=>
  obtain⟨rs,s',u7,i1,i2,i4,i3⟩:=L;obtain⟨hp,r1⟩:=hp rs s' u7;intro N code D I n Q c w a J gW B
  cases D with
  | @np _ _ id A ord Af he ho nb=>
   obtain⟨z,e1,e2,e3,DJ⟩:=i3 s'.H.l 0 (di _);have Z:z.l=l.l:=by rw[<-e1];simp
   have iD:∀(ops:List ek) (l:List jb),rZ P G N A ops=bf l->ops.l=l.l/\∀(i:Nat) (o:ek) (e:jb),ops[i]? = bf o->l[i]? = bf e->yT P G N A o=bf e:=by
    intro ops
    induction ops with
    | nil=>intro l h;cases h;exact⟨rfl,λi o e h=>by simp at h⟩
    | cons o r VW=>
     intro l h;obtain⟨e,l',rfl,h1,V⟩:=Jo h;obtain⟨q1,q2⟩:=VW l' V;refine⟨by simp[q1],λi o' e' ho he=>?_⟩
     cases i with
     | zero=>simp at ho he;subst ho;subst he;exact h1
     | succ i=>exact q2 i o' e' (by simpa using ho) (by simpa using he)
   obtain⟨q1,q2⟩:=iD _ _ Af;have hA:A.size=l.l:=by rw[<-q1];simp
   have jS:∀(i:Nat) (it:oh),z[i]? = bf it->it.k=i/\l[i]? = bf it.e/\rs[i]? = bf it.rc:=by
    intro i it hi;have iA:=(ae.1 hi).1;refine⟨?_,by rw[<-e1];simp[hi],by rw[<-e2];simp[hi]⟩;have:(z.map (·.k))[i]? = bf it.k:=by simp[hi]
    rw[e3,fp U]at this;simpa using this.symm
   refine fx hM ?_;have sh:iy G c s.H { w with drawn:=w.drawn+1 }:=gW.gW.r9 (ly.drew w);have KE:Step s.H.l c s.H w c s.H { w with drawn:=w.drawn+1 }:=Fb _ (ly.drew w)
   have VC:SX G N c { w with drawn:=w.drawn+1 } s.env.get (s.H++room (s'.H.l-s.H.l)) s.marks a:=
    ⟨aer sh _,mg.carry (λ_ _ h=>h.sv gW.gW.toHeapOK KE) gW.env,gW.size,gW.marks⟩
   refine Y9 (C:=CC P G) (λg args d Hn h=>h) he ho A.size z _ c _ _ _ a U ?_ VC DJ ?_ ?_ λc' w' W O X=>?_
   .refine⟨gP,λj hj=>?_,?_,λit lz=>?_,λi hi hl=>?_⟩
    .refine⟨λ_=>⟨z[j]' U,cD _,(jS j _ (cp _)).1⟩,λ_=>by simp[hj]⟩
    .rw[bV];intro i j hi hj DZ;rw[(jS i _ (cp hi)).1,(jS j _ (cp hj)).1];exact DZ
    .obtain⟨i,hi⟩:=aG.1 lz;have iA:=(ae.1 hi).1;rw[(jS i it hi).1];omega
    .simp_all
   .intro it lz;obtain⟨i,hi⟩:=aG.1 lz;have iA:=(ae.1 hi).1;obtain⟨k1,k2,k3⟩:=jS i it hi;refine⟨A[i]' U,by rw[k1];simp,q2 i _ _ gP k2⟩
   .intro p Aq q hq vi;obtain⟨i,hi⟩:=aG.1 Aq;obtain⟨j,hj⟩:=aG.1 hq;obtain⟨p1,p2,p3⟩:=jS i p hi;obtain⟨WX,WZ,q3⟩:=jS j q hj;rw[p1,WX]at vi ⊢;have iA:=(ae.1 hj).1;have:=dx.1 (dx.1 nb j (aZ.2 U)) i (aZ.2 vi);simp only[p2,WZ,bM,aE,dX]at this;rcases this with h|⟨h1,V⟩
    .exact .inl h
    .refine .inr ⟨h1,?_⟩;rcases V with V|V
     .have:=dx.1 hp (i,j) V;simp only[p3,q3]at this;exact this
     .obtain⟨_,_,_,_,E1⟩:=DJ.each p Aq;obtain⟨_,_,_,_,E2⟩:=DJ.each q hq;exact aeY E1 E2 V
   .simp only[b6,room,fr,az]at O X;refine B _ c' w' W r1 i4 i1 ⟨O.gW,O.env,O.size,by show oF c' s'.marks _;rw[i2];exact O.marks⟩ ?_;have h1:=KE.trans (aes (c:=c) (w:={ w with drawn:=w.drawn+1 }) (H:=s.H) (s'.H.l-s.H.l) s.H.l) (di _);exact h1.trans X gP
 | @oH kJ l es s R1 R t hp k L Ax=>
  obtain⟨rs,s',u7,i1,i2,i4,i3⟩:=L;have hp:=hp rs s' u7;have Ax:=Ax rs s' u7;intro N code D I n Q c w a J gW B
  cases D with
  | @oH _ _ _ id A ord Af he ho nb B2=>
   obtain⟨z,e1,e2,e3,DJ⟩:=i3 s'.H.l 0 (di _);have Z:z.l=l.l:=by rw[<-e1];simp
   obtain⟨o1,o2,Ur,c1,c2⟩:=ZZ Af;obtain⟨q1,q2⟩:=Z0 c1;obtain⟨q3,_⟩:=Z0 c2;have hA:A.size=l.l+es.l:=by rw[<-dK,Ur,aq,q1,q3]
   have y8:∀i,i<l.l->A[i]? = o1[i]? := λi hi=>by rw[<-bS,Ur,ah U]
   have r2:∀i,A[l.l+i]? = o2[i]? := λi=>by rw[<-bS,Ur,ao U];congr 1;omega
   have jS:∀(i:Nat) (it:oh),z[i]? = bf it->it.k=i/\l[i]? = bf it.e/\rs[i]? = bf it.rc/\i<l.l:=by
    intro i it hi;have iA:=(ae.1 hi).1;refine⟨?_,by rw[<-e1];simp[hi],by rw[<-e2];simp[hi],U⟩;have:(z.map (·.k))[i]? = bf it.k:=by simp[hi]
    rw[e3,fp U]at this;simpa using this.symm
   refine fx hM ?_;have sh:iy G c s.H { w with drawn:=w.drawn+1 }:=gW.gW.r9 (ly.drew w);have KE:Step s.H.l c s.H w c s.H { w with drawn:=w.drawn+1 }:=Fb _ (ly.drew w)
   have VC:SX G N c { w with drawn:=w.drawn+1 } s.env.get (s.H++room (s'.H.l-s.H.l)) s.marks a:=
    ⟨aer sh _,mg.carry (λ_ _ h=>h.sv gW.gW.toHeapOK KE) gW.env,gW.size,gW.marks⟩
   have zc:∀q∈(es.zipIdx l.l).map (λp=>(⟨p.2,p.1,0,⟨[],[]⟩⟩:oh)),l.l<=q.k/\q.k<l.l+es.l:=λq hq=>kM
   have pD:∀k,l.l<=k->k<l.l+es.l->∃p∈(es.zipIdx l.l).map (λp=>(⟨p.2,p.1,0,⟨[],[]⟩⟩:oh)),p.k=k:=λk h1 V=>
    ⟨⟨k,es[k-l.l]' U,0,⟨[],[]⟩⟩,aj.2 ⟨(es[k-l.l]' U,k),by rw[ei];exact⟨h1,gP⟩,rfl⟩,rfl⟩
   have Ak:((es.zipIdx l.l).map (λp=>(⟨p.2,p.1,0,⟨[],[]⟩⟩:oh))).l=es.l:=gP;rw[show A.size=z.l+((es.zipIdx l.l).map (λp=>(⟨p.2,p.1,0,⟨[],[]⟩⟩:oh))).l by rw[Ak];omega];refine Y' (C:=CC P G) (λg args d Hn h=>h) he ho (lasts:=(es.zipIdx l.l).map λp=>⟨p.2,p.1,0,⟨[],[]⟩⟩) (ops:=o2) (λq hq k B=>(B2 q.k (zc q hq).1 (by simp;exact(zc q hq).2) k B).imp (λh=>h) λh=>⟨pD k h.1 (by have:=(zc q hq).2;omega),h.2⟩) ?_ z.l z _ c _ _ _ a rfl ?_ VC DJ ?_ ?_ λc' w' W O X=>?_
   .refine bN λi=>?_;simp only[bC,aw,List.getElem?_zipIdx]
    cases h:es[i]? with
    | none=>
     have:es.l<=i:=by simpa using h
     simp[aY (l:=o2) (i:=i) U]
    | some e=>
     have:=(ae.1 h).1;simp[r2,cp (l:=o2) (i:=i) U]
   .refine⟨iz,λj hj=>?_,?_,λit lz=>?_,λi hi hl=>?_⟩
    .refine⟨λ_=>?_,λ_=>by rw[Ak];simp[(U:j<z.l+es.l)]⟩
     by_cases oK:j<l.l
     .exact⟨z[j]' U,bp _ (cD _),(jS j _ (cp _)).1⟩
     .refine⟨⟨j,es[j-l.l]' U,0,⟨[],[]⟩⟩,bK _ (aj.2 ⟨(es[j-l.l]' U,j),?_,rfl⟩),rfl⟩;rw[ei];exact⟨U,gP⟩
    .refine bw.2 ⟨?_,?_,λp Aq q hq=>?_⟩
     .rw[bV];intro i j hi hj DZ;rw[(jS i _ (cp hi)).1,(jS j _ (cp hj)).1];exact DZ
     .rw[bV];intro i j hi hj DZ;simp;omega
     .obtain⟨i,hi⟩:=aG.1 Aq;have h1:=jS i p hi;have V:=zc q hq;omega
    .rcases ai.1 lz with lz|lz
     .obtain⟨i,hi⟩:=aG.1 lz;have:=jS i it hi;omega
     .grind
    .simp_all
   .intro it lz;obtain⟨i,hi⟩:=aG.1 lz;obtain⟨k1,k2,k3,k4⟩:=jS i it hi;have h1:o1[i]? = bf (o1[i]' U):=cp _;exact⟨o1[i]' U,by rw[k1,y8 i k4,h1],q2 i _ _ h1 k2⟩
   .intro p Aq q hq vi;obtain⟨i,hi⟩:=aG.1 Aq;obtain⟨j,hj⟩:=aG.1 hq;obtain⟨p1,p2,p3,p4⟩:=jS i p hi;obtain⟨WX,WZ,q3,q4⟩:=jS j q hj;rw[p1,WX]at vi ⊢;have:=dx.1 (dx.1 nb j (aZ.2 iz)) i (aZ.2 vi);simp only[ah p4,ah q4,p2,WZ,bM,aE,dX]at this;rcases this with h|⟨h1,V⟩
    .exact .inl h
    .refine .inr ⟨h1,?_⟩;rcases V with V|V
     .have:=dx.1 hp (i,j) V;simp only[p3,q3]at this;exact this
     .obtain⟨_,_,_,_,E1⟩:=DJ.each p Aq;obtain⟨_,_,_,_,E2⟩:=DJ.each q hq;exact aeY E1 E2 V
   .simp only[b6,room,fr,az]at O X;have h1:=KE.trans (aes (c:=c) (w:={ w with drawn:=w.drawn+1 }) (H:=s.H) (s'.H.l-s.H.l) s.H.l) (di _);have V:=h1.trans X gP;exact Ax N A o2 c2 I n Q c' w' W (by rw[i4];exact J) ⟨O.gW,O.env,O.size,by show oF c' s'.marks _;rw[i2];exact O.marks⟩ (by rw[i4];exact B.mono V i1)
 | @loop live a s R h L=>
  intro N code D I n Q c w a J gW B
  cases D with
  | loop h1=>exact aue (L (di _) N _ h1 I n Q c w a J ⟨gW.gW,F4 gW.env live,gW.size,gW.marks⟩ B)
 | @Cn n0 live a s R1 R h k hs wB x9=>
  intro hn N code D I n Q c w a J gW B;refine alR (wB N _ D I n _ c w a J gW λo c' w' W Y rM E uz X=>?_)
  cases o with
  | norm s'=>
   have l0:n0<=s'.H.l:=ep hn E
   have J4:n0<=(cut n0 live s').H.l:=by
    unfold cut;split
    .exact l0
    .dsimp only;rw[Sy];simp[jx]
   have xi:(cut n0 live s').iI=s.iI:=by have Rj:s'.iI=s.iI:=rM;unfold cut;split<;>exact Rj
   obtain⟨c2,o5,vq,_⟩:=Dd uz l0 live;refine x9 s' Y J4 N _ D I n Q c2 w' W (λh=>J (by rw[<-xi];exact h)) o5 ?_;rw[xi];exact B.mono ((X.weaken hn).trans vq (di _)) (di _)
  | exit id s'=>exact B _ c' w' W (hs _ Y rfl) rM (ep hn E) uz (X.weaken hn)
  | ret s'=>exact B _ c' w' W (hs _ Y rfl) rM (ep hn E) uz (X.weaken hn)
 | @qb rf live x s f first cap fn R1 R rM hx hf hp h k L=>
  intro N code D I n Q c w a J gW B;have r4:=J rM;subst r4
  cases D with
  | qb Eg xN=>
   obtain⟨func,code,h1,V,t1,t2,t3,_⟩:=(hT.fn f fn hf).ex;exact auh gW Eg hx t3 xN (live:=live) (R1:=Ib R1) (R:=outs R) L k B
 | @exit id s R h=>
  intro N code D I n Q c w a J gW B;cases D;exact wpIn_exit (B _ c w a h rfl (di _) gW (Step.refl _ _ _ _))
 | @ret s R h=>
  intro N code D I n Q c w a J gW B;cases D;exact wpIn_ret (B _ c w a h rfl (di _) gW (Step.refl _ _ _ _))
 | @call f args H fn R1 R own hf hl h k L=>
  intro c w vs gW jh;obtain⟨func,code,hs,O,t1,t2,t3,t7,t4,t5,t6⟩:=(hT.fn f fn hf).ex;have xi:=asf hT.rt t1 t2 t7;rw[t5]at xi;refine callsIn_wide (n:=0) |>.1 (callsIn_of_wp_marks (F:=FW cc) t1 t2 trivial (L fn.ntmps code (Tj xi t4) cc 0 _ c w _ (λ_=>rfl) ⟨gW,ahA jh _,?_,.nil⟩ ?_))
  .simp;omega
  .intro o c' w' W Y rM E nA X;obtain⟨d,H',mb,r0⟩:=k o Y
   have g7:∀s:St,o.st=s->∀H1,kill s.marks s.H=bf H1->∀d0,AL.results fn { s with H:=H1 }=bf d0->leave own H.l H1 d0=(d,H') ->
     LeavesInM (FW cc) 0 P func W.tmps (λe w'=>∃v c' d H',e = .returned v/\Ib R d H'/\H.l<=H'.l/\iy G c' H' w'/\gX c' w' v d/\Step H.l c H w c' H' w') W.defers .returning w':=by
    rintro s rfl H1 aki d0 GU akk;refine alA nA.marks nA.gW aki λw1 q1 q2 q3=>?_;have Rk:mA G fn.ntmps c' w1 { o.st with H:=H1,marks:=[] } { W with defers:=[] }:=⟨q1,λj=>(nA.env j).sv nA.gW.toHeapOK q2,nA.size,.nil⟩;obtain⟨v,hv,KM⟩:=ast Rk t6 (d:=d0) (by rw[<-GU];exact ass { o.st with H:=H1 } []);have r3:H.l<=H1.l:=by rw[q3];exact E
    obtain⟨c2,k1,k2,k3,k4⟩:=yh q1 r3 own KM;rw[akk]at k1 k2 k3 k4;exact⟨v,hv,v,c2,d,H',rfl,r0,k4,k1,k2,(X.trans q2 E).trans k3 (di _)⟩
   have tM:∀s:St,finish fn own H.l (.norm s)=bf (d,H')->∃H1,kill s.marks s.H=bf H1/\∃d0,AL.results fn { s with H:=H1 }=bf d0/\leave own H.l H1 d0=(d,H'):=by
    intro s hf;simp only[finish]at hf;split at hf
    .grind
    .cases hf
   cases o with
   | norm s=>
    obtain⟨H1,q1,d0,q2,q3⟩:=tM s mb;exact g7 s rfl H1 q1 d0 q2 q3
   | ret s=>
    obtain⟨H1,q1,d0,q2,q3⟩:=tM s mb;exact g7 s rfl H1 q1 d0 q2 q3
   | exit id s=>cases mb
end
def Qe:fa->fa->Bool
 | .int k a,.int k' b=>decide (k=k')&&decide (a=b)
 | .bool a,.bool b=>a == b
 | .string a,.string b=>decide (a.data.toList=b.data.toList)
 | .nilFunc,.nilFunc=>ej
 | .tuple a,.tuple b=>a.toList.isEmpty&&b.toList.isEmpty
 | _,_=>eL
mutual
def rD:D->D->Bool
 | .any,.any=>ej
 | .val a,.val b=>Qe a b
 | .agg a,.agg b=>vR a b
 | .tup a,.tup b=>vR a b
 | .sl n a,.sl m b=>decide (n=m)&&F5 a b
 | .gV,.gV=>ej
 | .gR a b c d e,.gR a' b' c' d' e'=>decide (a=a')&&decide (b=b')&&decide (c=c')&&decide (d=d')&&decide (e=e')
 | .ptr a b c,.ptr a' b' c'=>decide (a=a')&&decide (b=b')&&decide (c=c')
 | .ie a,.ie b=>vR a b
 | .im a,.im b=>decide (a=b)
 | .jF a,.jF b=>decide (a=b)
 | .fn (.func f) a b,.fn (.func f') a' b'=>decide (f=f')&&vR a a'&&vR b b'
 | _,_=>eL
def vR:List D->List D->Bool
 | [],[]=>ej
 | a::l,b::m=>rD a b&&vR l m
 | _,_=>eL
def F5:List (List D)->List (List D)->Bool
 | [],[]=>ej
 | a::l,b::m=>vR a b&&F5 l m
 | _,_=>eL
end
def Di:Env->Env->Bool
 | [],[]=>ej
 | (i,a)::l,(j,b)::m=>decide (i=j)&&rD a b&&Di l m
 | _,_=>eL
def F6:List (fa×D)->List (fa×D)->Bool
 | [],[]=>ej
 | (i,a)::l,(j,b)::m=>Qe i j&&rD a b&&F6 l m
 | _,_=>eL
def TN:Ob->Ob->Bool
 | .row t g a,.row t' g' b=>decide (t=t')&&decide (g=g')&&vR a b
 | .map k a,.map k' b=>decide (k=k')&&F6 a b
 | .iV r e s,.iV r' e' s'=>decide (r=r')&&Di e e'&&decide (s=s')
 | .uI a p,.uI b q=>decide (a.data.toList=b.data.toList)&&decide (p=q)
 | .jO m s l,.jO m' s' l'=>rD m m'&&decide (s=s')&&decide (l=l')
 | .jJ,.jJ=>ej
 | .dead,.dead=>ej
 | .na,.na=>ej
 | _,_=>eL
def Dj:gQ->gQ->Bool
 | [],[]=>ej
 | a::l,b::m=>TN a b&&Dj l m
 | _,_=>eL
def Jv(s t:St):Bool:=Di s.env t.env&&Dj s.H t.H&&decide (s.marks=t.marks)&&(s.iI == t.iI)
def TO:Out->Out->Bool
 | .norm s,.norm t=>Jv s t
 | .exit i s,.exit j t=>decide (i=j)&&Jv s t
 | .ret s,.ret t=>Jv s t
 | _,_=>eL
def TP(a b:D×gQ):Bool:=rD a.1 b.1&&Dj a.2 b.2
def once{α:Type}(b:α->α->Bool):List α->List α
 | []=>[]
 | [a]=>[a]
 | a::l=>let m:=once b l;if m.any (b a)then m else a::m
def uQ{α b:Type}:List α->(α->Option (List b))->Option (List b)
 | [],_=>bf []
 | [a],f=>f a
 | a::l,f=>match f a,uQ l f with
  | some x,bf y=>bf (x++y)
  | _,_=>cc
abbrev A3:=eh->List D->gQ->Option (List (D×gQ))
abbrev Ff:=IR->St->Option (List Out)
def refsOf(s:St)(args:List D):List Nat:=dedup (args.map (jq s.H 40)).flatten
def Sl(cl:A3)(e:jb)(f:eh)(s:St):Option (List St):=
 match lZ s.env.get e.op with
 | none=>cc
 | some (f',args)=>if f'=f then(match cl f (args.map (ib (λ_=>cc) s.H 40)) []with
  | some l=>uQ l λp=>match after s e.dst args p.1 p.2 with
   | some s'=>bf [s']
   | none=>cc
  | none=>cc)else cc
def Xc(T:jt)(cl:A3)(e:jb)(s:St):Option (List St):=
 match lZ s.env.get e.op with
 | none=>cc
 | some (f,args)=>match T.fn f with
  | none=>cc
  | some fn=>
   match fn.full with
   | true=>match cl f args s.H with
    | some l=>bf (l.map λp=>{ s with env:=put s.env e.dst p.1,H:=p.2 })
    | none=>cc
   | false=>if fn.fz&&s.marks.isEmpty && !iB args then Sl cl e f (mC (refsOf s args) s)else Sl cl e f s
def Xf(T:jt)(rd:Ff)(e:jb)(s:St)(v:Nat)(args:List D):Option (List St):=
 match s.H[v]? with
 | some (.iV rf env0 .ready)=>match T.round rf with
  | some Rd=>if args.l=Rd.params.l then
    match rd Rd.a { env:=wP Rd.params args env0,H:=s.H,iI:=ej }with
    | some b=>match uQ b λo=>match o with
      | .norm s1=>match s1.H[v]? with
       | some (.iV rf1 mB .ready)=>if rf1=rf then rd Rd.b { s1 with H:=s1.H.set v (.iV rf mB .busy) }else cc
       | _=>cc
      | _=>cc with
     | some a=>uQ a λo=>match o.st.H[v]? with
      | some (.iV rf2 mO .busy)=>if rf2=rf then bf [{ s with env:=put s.env e.dst (.b !o.stop),H:=o.st.H.set v (.iV rf mO o.CD) }]else cc
      | _=>cc
     | none=>cc
    | none=>cc
   else cc
  | none=>cc
 | _=>cc
def Xe(e:jb)(s:St)(x:X):Option (List St):=
 match ev s.env.get x with
 | .ptr v 0 0=>match s.H[v]? with
  | some (.jO (.im m) since seen)=>match s.H[m]? with
   | some (.map _ es)=>if es.l=since then
     let left:=(ga es.l).filter λi => !seen.contains i
     if left.isEmpty then bf [{ s with env:=put s.env e.dst (.tup [.b eL]) }]else
      bf (left.filterMap λi=>match es[i]? with
       | some (k,d)=>bf { s with env:=put s.env e.dst (.tup [.b ej,uC k,d]),H:=s.H.set v (.jO (.im m) since (seen ++ [i])) }
       | none=>cc)
    else cc
   | _=>cc
  | _=>cc
 | _=>cc
def zy(T:jt)(cl:A3)(rd:Ff):List jb->St->Option (List St)
 | [],s=>bf [s]
 | e::r,s=>match guardOf s.env.get e.guard with
  | none=>cc
  | some eL=>zy T cl rd r { s with env:=put s.env e.dst (.val undef) }
  | some ej=>match iL s.env.get s.H s.H.l e.op with
   | some (d,δ)=>zy T cl rd r { s with env:=put s.env e.dst d,H:=δ.app s.H (Al.last s.H) }
   | none=>match nW s.env.get s.H s.H.l e.op with
    | some (d,δ)=>zy T cl rd r { s with env:=put s.env e.dst d,H:=δ.app s.H (Al.last s.H) }
    | none=>match e.op with
     | .nextM x=>match Xe e s x with
      | some l=>uQ l λs'=>zy T cl rd r s'
      | none=>cc
     | _=>match yieldOf s.env.get e.op with
      | some (v,args)=>match Xf T rd e s v args with
       | some l=>uQ l λs'=>zy T cl rd r s'
       | none=>cc
      | none=>match lZ s.env.get e.op with
       | none=>cc
       | some _=>match Xc T cl e s with
        | some l=>uQ l λs'=>zy T cl rd r s'
        | none=>cc
def isN:jG->Bool
 | .callN _ _=>ej
 | _=>eL
def AT(T:jt)(cl:A3)(st:Bool):List jb->St->Option (List Rc×St)
 | [],s=>bf ([],s)
 | e::r,s=>match guardOf s.env.get e.guard with
  | none=>cc
  | some eL=>match AT T cl st r { s with env:=put s.env e.dst (.val undef) }with
   | some (rs,s')=>bf (⟨[],[]⟩::rs,s')
   | none=>cc
  | some ej=>match iL s.env.get s.H s.H.l e.op with
   | some (d,δ)=>match AT T cl st r { s with env:=put s.env e.dst d,H:=δ.app s.H (Al.last s.H) }with
    | some (rs,s')=>bf (⟨iO s.env.get s.H e.op,kX s.H.l δ⟩::rs,s')
    | none=>cc
   | none=>match lZ s.env.get e.op with
    | none=>cc
    | some (f,args)=>match T.fn f with
     | none=>cc
     | some fn=>if fn.full||(st&&fn.fz && !iB args && !isN e.op)then cc else match cl f (args.map (ib (λ_=>cc) s.H 40)) []with
      | some [(d,[])]=>if (if iB args then closed d else flat d)then(match AT T cl st r { s with env:=put s.env e.dst d }with
       | some (rs,s')=>bf (⟨iO s.env.get s.H e.op,[]⟩::rs,s')
       | none=>cc)else(match e.op with
       | .callN _ _=>match (args.map (jq s.H 40)).flatten with
        | v::l=>if (l.all λu=>decide (u=v))&&(rowsOf s.H v).isSome&&iB (args.map (ib (λ_=>cc) s.H 40))&&closed d then(match AT T cl st r { s with env:=put s.env e.dst d,H:=s.H.set v .dead }with
         | some (rs,s')=>bf (⟨iO s.env.get s.H e.op,[(v,cc)]⟩::rs,s')
         | none=>cc)else cc
        | []=>cc
       | _=>cc)
      | some [(d,[ob])]=>match e.op with
       | .callN _ _=>if (if iB args then oC d&&pP ob else rl d&&r8 ob)then(match AT T cl st r { s with env:=put s.env e.dst (lL s.H.l d),H:=s.H ++ [ob] }with
        | some (rs,s')=>bf (⟨iO s.env.get s.H e.op,[(s.H.l,cc)]⟩::rs,s')
        | none=>cc)else cc
       | _=>cc
      | _=>cc
def tX(T:jt)(cl:A3)(d:Nat->List Nat->IR->St->Option (List Out))(rd:Ff):IR->St->Option (List Out)
 | .skip,s=>bf [.norm s]
 | .ops l,s=>match zy T cl rd l s with
  | some l=>bf (l.map .norm)
  | none=>cc
 | .np kJ l,s=>match AT T cl ej l s with
  | some (rs,s')=>if ym kJ rs then bf [.norm s']else cc
  | none=>if s.marks.isEmpty then(match AT T cl eL l (mC (ga s.H.l) s)with
   | some (rs,s')=>if ym kJ rs then bf [.norm s']else cc
   | none=>cc)else cc
 | .oH ..,_=>cc
 | .seq a b,s=>match tX T cl d rd a s with
  | some l=>uQ l λo=>match o with
   | .norm s'=>tX T cl d rd b s'
   | o=>bf [o]
  | none=>cc
 | .cond c a b,s=>match ev s.env.get c with
  | .val (.bool ej)=>tX T cl d rd a s
  | .val (.bool eL)=>tX T cl d rd b s
  | _=>cc
 | .block id live a,s=>match tX T cl d rd a s with
  | some l=>bf (once TO (l.map (mX id s.H.l live)))
  | none=>cc
 | .loop live a,s=>d s.H.l live a { s with env:=forget live s.env }
 | .qb rf live x,s=>if s.iI then cc else match ev s.env.get x with
  | .fn (.func f) first cap=>match T.fn f with
   | some fn=>if fn.full then
     match cl f (first ++ [.jF (s.H.l+1)]++cap) (s.H ++ [.jJ,.iV rf (forget live s.env) .ready])with
     | some l=>uQ l λp=>match p.2[s.H.l+1]? with
      | some (.iV rf' _ st)=>if rf'=rf then(match Cu { s with H:=p.2.set (s.H.l+1) .dead,marks:=s.H.l::s.marks } st with
       | some o=>bf [o]
       | none=>cc)else cc
      | _=>cc
     | none=>cc
    else cc
   | none=>cc
  | _=>cc
 | .exit id,s=>bf [.exit id s]
 | .ret,s=>bf [.ret s]
 | .bad,_=>cc
 | .fz _ _,_=>cc
 | .xL _ _ _,_=>cc
abbrev yJ:=List (eh×List D×List (D×gQ))
def LD:yJ->eh->List D->Option (List (D×gQ))
 | [],_,_=>cc
 | (g,zN,l)::M,f,args=>match Nat.beq g f with
  | true=>match vR zN args with
   | true=>bf l
   | false=>LD M f args
  | false=>LD M f args
def known(M:yJ)(f:eh)(args:List D):gQ->Option (List (D×gQ))
 | []=>LD M f args
 | _=>cc
mutual
def EU(T:jt)(M:yJ):Nat->Nat->List Nat->IR->St->Option (List Out)
 | 0,_,_,_,_=>cc
 | k+1,n,live,a,s=>match tX T (run T M k) (EU T M k) (HN T M k) a s with
  | some l=>uQ l λo=>match o with
   | .norm s'=>EU T M k n live a (cut n live s')
   | o=>bf [o]
  | none=>cc
def HN(T:jt)(M:yJ):Nat->Ff
 | 0,_,_=>cc
 | k+1,c,s=>tX T (run T M k) (EU T M k) (HN T M k) c s
def run(T:jt)(M:yJ):Nat->A3
 | 0,_,_,_=>cc
 | k+1,f,args,H=>match known M f args H with
  | some l=>bf l
  | none=>match T.fn f with
  | none=>cc
  | some fn=>if args.l<=fn.ntmps then(match tX T (run T M k) (EU T M k) (HN T M k) fn.body { env:=wH args,H:=H }with
   | some l=>match uQ l λo=>match finish fn fn.own H.l o with
     | some p=>bf [p]
     | none=>cc with
    | some ps=>bf (once TP ps)
    | none=>cc
   | none=>cc)else cc
end
def aau{a b:fa}(h:Qe a b=ej):a=b:=by
 unfold Qe at h;split at h
 .grind
 .grind
 .rename_i a b;simp only[decide_eq_true_eq]at h
  have:a=b:=by cases a;cases b;congr 1;exact Array.ext' h
  rw[this]
 .rfl
 .grind
 .cases h
mutual
theorem Ju:∀ {a b:D},rD a b=ej->a=b
 | .any,b,h=>by cases b<;>simp[rD]at h ⊢
 | .val a,b,h=>by cases b<;>simp[rD]at h ⊢;exact aau h
 | .agg a,b,h=>by cases b<;>simp[rD]at h ⊢;exact zZ h
 | .tup a,b,h=>by cases b<;>simp[rD]at h ⊢;exact zZ h
 | .sl n a,b,h=>by cases b<;>simp[rD]at h ⊢;exact⟨h.1,aap h.2⟩
 | .gV,b,h=>by cases b<;>simp[rD]at h ⊢
 | .nj _,b,h=>by cases b<;>simp[rD]at h
 | .gR a1 a2 a3 a4 a5,b,h=>by cases b<;>simp[rD]at h ⊢;simp[h]
 | .ptr a1 a2 a3,b,h=>by cases b<;>simp[rD]at h ⊢;simp[h]
 | .ie a,b,h=>by cases b<;>simp[rD]at h ⊢;exact zZ h
 | .im a,b,h=>by cases b<;>simp[rD]at h ⊢;exact h
 | .jF a,b,h=>by cases b<;>simp[rD]at h ⊢;exact h
 | .fn f a a',b,h=>by
  cases f<;>cases b<;>first|(simp[rD]at h;done)|skip
  rename_i f g b c;cases g<;>simp[rD]at h ⊢;exact⟨h.1.1,zZ h.1.2,zZ h.2⟩
theorem zZ:∀ {a b:List D},vR a b=ej->a=b
 | [],[],_=>rfl
 | a::l,b::m,h=>by simp only[vR,aE]at h;rw[Ju h.1,zZ h.2]
 | [],_::_,h=>by simp[vR]at h
 | _::_,[],h=>by simp[vR]at h
theorem aap:∀ {a b:List (List D)},F5 a b=ej->a=b
 | [],[],_=>rfl
 | a::l,b::m,h=>by simp only[F5,aE]at h;rw[zZ h.1,aap h.2]
 | [],_::_,h=>by simp[F5]at h
 | _::_,[],h=>by simp[F5]at h
end
theorem TL:∀ {a b:Env},Di a b=ej->a=b
 | [],[],_=>rfl
 | (i,a)::l,(j,b)::m,h=>by simp only[Di,aE,decide_eq_true_eq]at h;rw[h.1.1,Ju h.1.2,TL h.2]
 | [],_::_,h=>by simp[Di]at h
 | _::_,[],h=>by simp[Di]at h
theorem aaq:∀ {a b:List (fa×D)},F6 a b=ej->a=b
 | [],[],_=>rfl
 | (i,a)::l,(j,b)::m,h=>by simp only[F6,aE]at h;rw[aau h.1.1,Ju h.1.2,aaq h.2]
 | [],_::_,h=>by simp[F6]at h
 | _::_,[],h=>by simp[F6]at h
def ahB{a b:Ob}(h:TN a b=ej):a=b:=by
 unfold TN at h;split at h
 .simp only[aE,decide_eq_true_eq]at h;rw[h.1.1,h.1.2,zZ h.2]
 .simp only[aE,decide_eq_true_eq]at h;rw[h.1,aaq h.2]
 .simp only[aE,decide_eq_true_eq]at h;rw[h.1.1,TL h.1.2,h.2]
 .rename_i a p b q;simp only[aE,decide_eq_true_eq]at h
  have:a=b:=by cases a;cases b;congr 1;exact Array.ext' h.1
  rw[this,h.2]
 .simp only[aE,decide_eq_true_eq]at h;rw[Ju h.1.1,h.1.2,h.2]
 .rfl
 .rfl
 .rfl
 .cases h
theorem TM:∀ {a b:gQ},Dj a b=ej->a=b
 | [],[],_=>rfl
 | a::l,b::m,h=>by simp only[Dj,aE]at h;rw[ahB h.1,TM h.2]
 | [],_::_,h=>by simp[Dj]at h
 | _::_,[],h=>by simp[Dj]at h
def TQ{a b:St}(h:Jv a b=ej):a=b:=by obtain⟨e,H,m,r⟩:=a;obtain⟨i,H',g,r'⟩:=b;simp only[Jv,aE,decide_eq_true_eq,beq_iff_eq]at h;obtain⟨⟨⟨h1,f⟩,d⟩,c⟩:=h;rw[TL h1,TM f,d,c]
def ahC{a b:Out}(h:TO a b=ej):a=b:=by
 unfold TO at h;split at h
 .rw[TQ h]
 .simp only[aE,decide_eq_true_eq]at h;rw[h.1,TQ h.2]
 .rw[TQ h]
 .cases h
def ahD{a b:D×gQ}(h:TP a b=ej):a=b:=by simp only[TP,aE]at h;exact cZ (Ju h.1) (TM h.2)
theorem R6{α:Type}{d:α->α->Bool}(h:∀a b,d a b=ej->a=b):∀ {l:List α} {a:α},a∈l->a∈once d l
 | [a],b,hb=>hb
 | a::b::l,c,hc=>by
  rw[once]
  .split
   .rename_i e;rcases ak.1 hc with rfl|hc
    .grind
    .exact R6 h hc
   .rcases ak.1 hc with rfl|hc
    .grind
    .exact bt _ (R6 h hc)
  .grind
theorem zM{α g:Type}{f:α->Option (List g)}:∀ {l:List α} {r:List g},uQ l f=bf r->∀a∈l,∃y,f a=bf y/\∀b∈y,b∈r
 | [],r,_,a,ha=>by simp at ha
 | [a],r,h,b,hb=>by simp only[eK]at hb;subst hb;exact⟨r,h,λ_ h=>h⟩
 | a::b::l,r,h,c,hc=>by
  rw[uQ]at h
  .split at h
   .rename_i x y m j;cases h;rcases ak.1 hc with rfl|hc
    .grind
    .obtain⟨z,i,e⟩:=zM j c hc;exact⟨z,i,λd k=>bK _ (e d k)⟩
   .cases h
  .grind
section
variable{T:jt}{cl:A3}{rd:Ff}
def yH(l:List Out):rW->Prop:=λr=>∃o∈l,r = .out o
def IM(l:List St):rW->Prop:=λr=>∃s∈l,r = .out (.norm s)
def lP(l:List (D×gQ)):rW->Prop:=λr=>∃p∈l,r = .val p.1 p.2
def tZ(T:jt)(cl:A3):Prop:=∀f args H l,cl f args H=bf l->Ev T (.call f args H) (lP l)
def Pt(T:jt)(rd:Ff):Prop:=∀c s l,rd c s=bf l->Ev T (.code c s) (yH l)
theorem yH.out{l:List Out}{o:Out}(h:yH l (.out o)):o∈l:=by obtain⟨o',h1,a⟩:=h;cases a;exact h1
theorem lP.val{l:List (D×gQ)}{d:D}{H:gQ}(h:lP l (.val d H)):(d,H)∈l:=by obtain⟨o',h1,a⟩:=h;cases a;exact h1
theorem IM.sub{a b:List St}(h:∀s∈a,s∈b){r:rW}(c:IM a r):IM b r:=by obtain⟨s,h1,d⟩:=c;exact⟨s,h s h1,d⟩
theorem yH.sub{a b:List Out}(h:∀s∈a,s∈b){r:rW}(c:yH a r):yH b r:=by obtain⟨s,h1,d⟩:=c;exact⟨s,h s h1,d⟩
theorem ajz{S:List Nat}{s:St}{g:Option (Nat×Bool)}{b:Bool}(h:guardOf s.env.get g=bf b):guardOf (mC S s).env.get g=bf b:=by
 cases g with
 | none=>exact h
 | some p=>
  simp only[guardOf,mC]at h ⊢
  have e:Env.get (s.env.map λp=>(p.1,ib (iP (nv s.H S)) s.H 40 p.2)) p.1=ib (iP (nv s.H S)) s.H 40 (s.env.get p.1):=by
   generalize s.env=env
   induction env with
   | nil=>rfl
   | cons q r c=>
    obtain⟨j,d⟩:=q;simp only[List.map_cons,Env.y4];split
    .rfl
    .exact c
  rw[e];split at h
  .rename_i x a;rw[a];have:ib (iP (nv s.H S)) s.H 40 (.val (.bool x)) = .val (.bool x):=by unfold ib;rfl
   rw[this];exact h
  .rename_i vs a;rw[a];have:ib (iP (nv s.H S)) s.H 40 (.val (.tuple vs)) = .val (.tuple vs):=by unfold ib;rfl
   rw[this];exact h
  .cases h
theorem aey(m:tZ T cl){e:jb}{r:List jb}{f:eh}{fn:kn}{s:St}{l:List St}{R:rW->Prop}(hg:guardOf s.env.get e.guard=bf ej)(o:T.fn f=bf fn)(n:fn.full=eL)
  (h:Sl cl e f s=bf l) (k:∀s'∈l,Ev T (.ops r s') R):Ev T (.ops (e::r) s) R:=by
 unfold Sl at h;split at h
 .cases h
 .rename_i f' args p;split at h
  .rename_i q;subst q;split at h
   .rename_i t i;have c:=zM h;refine .Jb hg p o n (m _ _ _ _ i) (λd Hn b=>?_) λd Hn s' b j=>?_
    .obtain⟨y,a,_⟩:=c _ b.val;dsimp only at a;split at a
     .grind
     .cases a
    .obtain⟨y,a,g⟩:=c _ b.val;dsimp only at a;rw[j]at a;cases a;exact k s' (g s' gP)
   .cases h
  .cases h
theorem asR(b:tZ T cl){e:jb}{r:List jb}{s:St}{l:List St}{R:rW->Prop}(hg:guardOf s.env.get e.guard=bf ej)
  (h:Xc T cl e s=bf l) (k:∀s'∈l,Ev T (.ops r s') R):Ev T (.ops (e::r) s) R:=by
 unfold Xc at h;split at h
 .cases h
 .rename_i f args m;split at h
  .cases h
  .rename_i fn c;split at h
   .rename_i a;split at h
    .rename_i n i;cases h;refine .Ja hg m c a (b _ _ _ _ i) λd H' j=>k _ ?_;exact aj.2 ⟨(d,H'),j.val,rfl⟩
    .cases h
   .rename_i a;split at h
    .rename_i g;simp only[aE,eX]at g;refine .mC (refsOf s args) ?_ (aey b (ajz hg) c a h k);rw[g.1.2];rfl
    .exact aey b hg c a h k
theorem asT(g:Pt T rd){e:jb}{r:List jb}{s:St}{v:Nat}{args:List D}{l:List St}{R:rW->Prop}(hg:guardOf s.env.get e.guard=bf ej)(x:yieldOf s.env.get e.op=bf (v,args))
  (h:Xf T rd e s v args=bf l) (k:∀s'∈l,Ev T (.ops r s') R):Ev T (.ops (e::r) s) R:=by
 unfold Xf at h;split at h
 .rename_i rf env0 u;split at h
  .rename_i Rd z;split at h
   .rename_i hl;split at h
    .rename_i E B;split at h
     .rename_i q f;have m:=zM f;have j:=zM h;refine .PF hg x u z hl (g _ _ _ B) (Rb:=yH q) (λo b=>?_) (λs1 i t c=>?_) (λo b=>?_) λo C b p=>?_
      .obtain⟨y,a,_⟩:=m o b.out;split at a
       .rename_i s1;split at a
        .rename_i n i c;split at a
         .rename_i A;subst A;exact⟨rfl,i,c⟩
         .cases a
        .cases a
       .cases a
      .obtain⟨y,a,d⟩:=m _ t.out;simp only[c,if_true]at a;exact(g _ _ _ a).mono λr w=>w.sub d
      .obtain⟨y,a,_⟩:=j o b.out;split at a
       .grind
       .cases a
      .obtain⟨y,a,d⟩:=j o b.out;simp only[p,if_true]at a;cases a;exact k _ (d _ gP)
     .cases h
    .cases h
   .cases h
  .cases h
 .cases h
theorem asS{e:jb}{r:List jb}{s:St}{x:X}{l:List St}{R:rW->Prop}(hg:guardOf s.env.get e.guard=bf ej)(a:e.op = .nextM x)
  (h:Xe e s x=bf l) (k:∀s'∈l,Ev T (.ops r s') R):Ev T (.ops (e::r) s) R:=by
 unfold Xe at h;split at h
 .rename_i v c;split at h
  .rename_i m since seen f;split at h
   .rename_i kk es g;split at h
    .rename_i hs;dsimp only at h;refine .next hg a c f g hs (λh0=>?_) λi kv d hi j=>?_
     .rw[if_pos]at h
      .grind
      .simp_all
     .have b:=(ae.1 hi).1;rw[if_neg]at h
      .grind
      .rw[eX,eT];intro h0;have:=h0 i (by simpa using b);simp at this;exact j this
    .cases h
   .cases h
  .cases h
 .cases h
theorem LU(b:tZ T cl)(a:Pt T rd):∀(l:List jb) (s:St) (r:List St),zy T cl rd l s=bf r->Ev T (.ops l s) (IM r)
 | [],s,r,h=>by cases h;exact .nil ⟨s,gP,rfl⟩
 | e::r,s,res,h=>by
  have f:∀ {l:List St},(uQ l λs'=>zy T cl rd r s')=bf res->∀s'∈l,Ev T (.ops r s') (IM res):=λhl s' j=>by obtain⟨y,m,i⟩:=zM hl s' j;exact(LU b a r s' y m).mono λ_ n=>n.sub i
  simp only[zy]at h;split at h
  .cases h
  .rename_i hg;exact .off hg (LU b a r _ _ h)
  .rename_i hg;split at h
   .rename_i d δ c;exact .op hg c (LU b a r _ _ h)
   .split at h
    .rename_i d δ c;exact .E4 hg c (LU b a r _ _ h)
    .split at h
     .rename_i x k;split at h
      .rename_i l hl;exact asS hg k hl (f h)
      .cases h
     .split at h
      .rename_i v args g;split at h
       .rename_i l hl;exact asT a hg g hl (f h)
       .cases h
      .split at h
       .cases h
       .rename_i g;split at h
        .rename_i l hl;exact asR b hg hl (f h)
        .cases h
theorem EV(a:tZ T cl)(st:Bool):∀(l:List jb) (s:St) (rs:List Rc) (s':St),AT T cl st l s=bf (rs,s')->Ev T (.trace l s) (λr=>r = .tr rs s')
 | [],s,rs,s',h=>by cases h;exact .Mg rfl
 | e::r,s,rs,s',h=>by
  simp only[AT]at h;split at h
  .cases h
  .rename_i hg;split at h
   .rename_i h1;cases h;exact .Mh hg (EV a st r _ _ _ h1) λ_ _ h=>by cases h;rfl
   .cases h
  .rename_i hg;split at h
   .rename_i d δ w;split at h
    .rename_i h1;cases h;exact .Mi hg w (EV a st r _ _ _ h1) λ_ _ h=>by cases h;rfl
    .cases h
   .split at h
    .cases h
    .rename_i f args p;split at h
     .cases h
     .rename_i fn o;split at h
      .cases h
      .rename_i B;have n:fn.full=false:=kM;split at h
       .rename_i d j
        by_cases b:(if iB args=ej then closed d else flat d)=ej
        .rw[if_pos b]at h;split at h
         .rename_i h1;cases h;refine .Md hg p o n (a _ _ _ _ j) (λd' Hn i=>?_) b (EV a st r _ _ _ h1) λ_ _ h=>by cases h;rfl
          have:=i.val;simp only[eK,ef]at this;exact this
         .cases h
        .rw[if_neg b]at h;split at h
         .rename_i g k c;split at h
          .rename_i v l t;split at h
           .rename_i q;simp only[aE,dx,decide_eq_true_eq]at q;obtain⟨⟨⟨A,c2⟩,y⟩,x⟩:=q;split at h
            .rename_i h1;cases h;have m:bf (g,k.map (ev s.env.get))=bf (f,args):=by rw[<-p,c];rfl
             cases m;refine .Mf (v:=v) hg c rfl o n (λu z=>?_) (by rw[t];simp) c2 y (a _ _ _ _ j) (λd' Hn i=>?_) x (EV a st r _ _ _ h1) λ_ _ h=>by cases h;rfl
             .grind
             .have:=i.val;simp only[eK,ef]at this;exact this
            .cases h
           .cases h
          .cases h
         .cases h
       .rename_i d ob j;split at h
        .rename_i g k c
         by_cases b:(if iB args=ej then oC d&&pP ob else rl d&&r8 ob)=ej
         .rw[if_pos b]at h;split at h
          .rename_i h1;cases h;have m:bf (g,k.map (ev s.env.get))=bf (f,args):=by rw[<-p,c];rfl
           cases m;refine .Me hg c rfl o n (a _ _ _ _ j) (λd' Hn i=>?_) b (EV a st r _ _ _ h1) λ_ _ h=>by cases h;rfl
           have:=i.val;simp only[eK,ef]at this;exact this
          .cases h
         .grind
        .cases h
       .cases h
theorem Xd(p:tZ T cl)(C:Pt T rd){B:Nat->List Nat->IR->St->Option (List Out)}(z:∀n live a s l,B n live a s=bf l->Ev T (.loop n live a s) (yH l)) :
  ∀(c:IR) (s:St) (l:List Out),tX T cl B rd c s=bf l->Ev T (.code c s) (yH l):=by
 intro c
 induction c with
 | skip=>intro s l h;cases h;exact .skip ⟨_,gP,rfl⟩
 | ops ops=>
  intro s l h;simp only[tX]at h;split at h
  .rename_i t h1;cases h;refine .Jn ((LU p C _ _ _ h1).mono λr v=>?_);obtain⟨s',u,rfl⟩:=v;exact⟨_,aj.2 ⟨s',u,rfl⟩,rfl⟩
  .cases h
 | oH G ops es=>intro s l h;simp[tX]at h
 | np G ops=>
  intro s l h;simp only[tX]at h;split at h
  .rename_i rs s' h1;split at h
   .rename_i w;cases h;exact .np (EV p _ _ _ _ _ h1) λ_ _ h=>by cases h;exact⟨w,_,gP,rfl⟩
   .cases h
  .split at h
   .rename_i i;split at h
    .rename_i rs s' h1;split at h
     .rename_i w;cases h;refine .JF (ga s.H.l) ?_ (.np (EV p _ _ _ _ _ h1) λ_ _ h=>by cases h;exact⟨w,_,gP,rfl⟩);rw[eX]at i;rw[i];rfl
     .cases h
    .cases h
   .cases h
 | seq a b j q=>
  intro s l h;simp only[tX]at h;split at h
  .rename_i t h1;have i:=zM h;refine .seq (j _ _ h1) (λs' u=>?_) λo m I=>?_
   .obtain⟨y,g,k⟩:=i _ u.out;exact(q _ _ g).mono λ_ v=>v.sub k
   .obtain⟨y,g,k⟩:=i _ m.out
    cases o with
    | norm=>cases I
    | exit id s'=>cases g;exact⟨_,k _ gP,rfl⟩
    | ret s'=>cases g;exact⟨_,k _ gP,rfl⟩
  .cases h
 | cond c a b j q=>
  intro s o h;simp only[tX]at h;split at h
  .rename_i A;exact .cond (x:=ej) A (j _ _ h)
  .rename_i A;exact .cond (x:=eL) A (q _ _ h)
  .cases h
 | block id live a j=>
  intro s l h;simp only[tX]at h;split at h
  .rename_i t h1;cases h;refine .block (j _ _ h1) λo m=>⟨_,R6 (λ_ _=>ahC) (aj.2 ⟨o,m.out,rfl⟩),rfl⟩
  .cases h
 | loop live a j=>intro s o h;exact .loop (z _ _ _ _ _ h)
 | qb rf live x=>
  intro s l h;simp only[tX]at h;split at h
  .cases h
  .rename_i E;split at h
   .rename_i f first cap hx
    split at h
    .rename_i fn J;split at h
     .rename_i L;split at h
      .rename_i t H;have i:=zM h;refine .qb (by simpa using E) hx J L (p _ _ _ _ H) λd H' K=>?_;obtain⟨y,g,k⟩:=i _ K.val;dsimp only at g;split at g
       .rename_i D env st F;split at g
        .rename_i e;subst e;split at g
         .rename_i o m;cases g;exact⟨env,st,o,F,m,_,k _ gP,rfl⟩
         .cases g
        .cases g
       .cases g
      .cases h
     .cases h
    .cases h
   .cases h
 | exit id=>intro s o h;cases h;exact .exit ⟨_,gP,rfl⟩
 | ret=>intro s o h;cases h;exact .ret ⟨_,gP,rfl⟩
 | bad=>intro s o h;cases h
 | fz _ _=>intro s o h;cases h
 | xL _ _ _=>intro s o h;cases h
end
section
variable{T:jt}
def oR(T:jt)(M:yJ):Prop:=∀p∈M,Ev T (.call p.1 p.2.1 []) (lP p.2.2)
theorem oR.nil(T:jt):oR T []:=λp a=>by cases a
theorem oR.cons{T:jt}{f:eh}{args:List D}{l:List (D×gQ)}{M:yJ}(h:Ev T (.call f args []) (lP l))(t:oR T M):oR T ((f,args,l)::M):=λp a=>by
 rcases ak.1 a with rfl|a
 .exact h
 .exact t p a
theorem ash{M:yJ}(hM:oR T M){f:eh}{args:List D}{l:List (D×gQ)}(h:LD M f args=bf l):Ev T (.call f args []) (lP l):=by
 induction M with
 | nil=>cases h
 | cons p M i=>
  obtain⟨g,a,e⟩:=p;have d:oR T M:=λq b=>hM q (by simp[b]);simp only[LD]at h;split at h
  .rename_i hg;split at h
   .rename_i c;cases h;have:=hM (g,a,l) gP;rw[zZ c,cO hg]at this;exact this
   .grind
  .grind
theorem aeC{M:yJ}(hM:oR T M):∀k:Nat,(∀n live a s l,EU T M k n live a s=bf l->Ev T (.loop n live a s) (yH l))/\Pt T (HN T M k)/\tZ T (run T M k)
 | 0=>⟨λ_ _ _ _ _ h=>by simp[EU]at h,λ_ _ _ h=>by simp[HN]at h,λ_ _ _ _ h=>by simp[run]at h⟩
 | k+1=>by
  obtain⟨e,j,i⟩:=aeC hM k;refine⟨λn live a s l h=>?_,λc s l h=>?_,λf args H l h=>?_⟩
  .simp only[EU]at h;split at h
   .rename_i q h1;have g:=zM h;refine .Cn (Xd i j e _ _ _ h1) (λs' t=>?_) λo m u=>?_
    .obtain⟨y,b,d⟩:=g _ t.out;exact(e _ _ _ _ _ b).mono λ_ v=>v.sub d
    .obtain⟨y,b,d⟩:=g _ m.out
     cases o with
     | norm=>cases u
     | exit id s'=>cases b;exact⟨_,d _ gP,rfl⟩
     | ret s'=>cases b;exact⟨_,d _ gP,rfl⟩
   .cases h
  .simp only[HN]at h;exact Xd i j e _ _ _ h
  .simp only[run]at h;split at h
   .rename_i q r;cases h
    cases H with
    | nil=>exact ash hM r
    | cons=>cases r
   split at h
   .cases h
   .rename_i fn x;split at h
    .rename_i hl;split at h
     .rename_i q h1;split at h
      .rename_i ps z;cases h;have g:=zM z;refine .call fn.own x hl (Xd i j e _ _ _ h1) λo m=>?_;obtain⟨y,b,d⟩:=g _ m.out;split at b
       .rename_i p w;cases b;exact⟨p.1,p.2,w,p,R6 (λ_ _=>ahD) (d _ gP),rfl⟩
       .cases b
      .cases h
     .cases h
    .cases h
theorem qc{M:yJ}(hM:oR T M){k:Nat}{f:eh}{args:List D}{H:gQ}{l:List (D×gQ)}(h:run T M k f args H=bf l):Ev T (.call f args H) (lP l):=(aeC hM k).2.2 f args H l h
end
@[reducible] def o(k:Nat)(op:jG):jb:={ dst:=bf k,op:=op,guard:=cc }
@[reducible] def u(op:jG):jb:={ dst:=cc,op:=op,guard:=cc }
@[reducible] def og(j:Nat)(b:Bool)(k:Nat)(op:jG):jb:={ dst:=bf k,op:=op,guard:=bf (j,b) }
@[reducible] def ug(j:Nat)(b:Bool)(op:jG):jb:={ dst:=cc,op:=op,guard:=bf (j,b) }
def Zw(n:Nat):List D:=gb n (.val (.int .u32 0))
def Zb(n:Nat):List D:=gb n (.val (.int .u8 0))
def Ge:List D:=([1779033703,3144134277,1013904242,2773480762,1359893119,2600822924,528734635,1541459225]:List Int).map λn=>.val (.int .u32 n)
def Gk:List D:=([1116352408,1899447441,3049323471,3921009573,961987163,1508970993,2453635748,2870763221,3624381080,310598401,607225278,1426881987,1925078388,2162078206,2614888103,3248222580,3835390401,4022224774,264347078,604807628,770255983,1249150122,1555081692,1996064986,2554220882,2821834349,2952996808,3210313671,3336571891,3584528711,113926993,338241895,666307205,773529912,1294757372,1396182291,1695183700,1986661051,2177026350,2456956037,2730485921,2820302411,3259730800,3345764771,3516065817,3600352804,4094571909,275423344,430227734,506948616,659060556,883997877,958139571,1322822218,1537002063,1747873779,1955562222,2024104815,2227730452,2361852424,2428436474,2756734187,3204031479,3329325298]:List Int).map λn=>.val (.int .u32 n)
def nth:List (Option kn)->Nat->Option kn
 | [],_=>cc
 | a::_,0=>a
 | _::l,n+1=>nth l n
def assoc:List (Nat×sR)->Nat->Option sR
 | [],_=>cc
 | (k,R)::l,n=>if k=n then bf R else assoc l n
def elem(f:Nat):List Nat->Bool
 | []=>eL
 | a::l=>if a=f then ej else elem f l
def I5(fn:Func):Code:=fn.body.getD .skip
def ES(P:er)(rf:Nat):Array Tmp:=match CE P rf with
 | some (_,ps,_,_)=>ps
 | none=>#[]
def EO(P:er)(rf:Nat):Code:=match CE P rf with
 | some (_,_,a,_)=>a
 | none=>.skip
def EP(P:er)(rf:Nat):Code:=match CE P rf with
 | some (_,_,_,b)=>b
 | none=>.skip
section
variable{P:er}{G:GT}
theorem ajs{f:eh}{fn:kn}{func:Func}{code:Code}{hs a:List (List Nat)}(h1:P.funcs[f]? = bf func)(h:func.body=bf code)(g:uW P f=ej)(e:(pI code).l<=64)
  (d:cC P G fn.ntmps (64*f) hs code=bf (fn.body,a)) (c:func.ntmps=fn.ntmps) (b:C8 P func.results.toList=bf fn.results):IJ P G f fn:=⟨⟨func,code,hs,a,h1,h,g,e,d,c,b⟩⟩
theorem ER{rf:Nat}{R:sR}{N:Nat}{ps:Array Tmp}{ac bc:Code}(d c:List (List Nat))(h1:G.rt rf=bf (N,ps,ac,bc))(h:ps.toList=R.params)(g:(R.params.all λp=>decide (p<N))=ej)
  (b:pI ac = []/\pI bc = []) (f:cC P G N 0 d ac=bf (R.a,[])) (e:cC P G N 0 c bc=bf (R.b,[])):xC P G rf R:=
 ⟨⟨N,ps,ac,bc,h1,h,g,Tj (λi x a=>by rw[b.1]at a;cases a) f,Tj (λi x a=>by rw[b.2]at a;cases a) e⟩⟩
inductive zF(P:er)(G:GT):Nat->List (Option kn)->Prop
 | nil (k:Nat):zF P G k []
 | has {k:Nat} {fn:kn} {l:List (Option kn)} (h:IJ P G k fn) (t:zF P G (k+1) l):zF P G k (bf fn::l)
 | no {k:Nat} {l:List (Option kn)} (t:zF P G (k+1) l):zF P G k (none::l)
inductive C1(P:er)(G:GT):List (Nat×sR)->Prop
 | nil:C1 P G []
 | cons {k:Nat} {R:sR} {l:List (Nat×sR)} (h:xC P G k R) (t:C1 P G l):C1 P G ((k,R)::l)
theorem zF.get:∀ {l:List (Option kn)} {k:Nat},zF P G k l->∀(i:Nat) (fn:kn),nth l i=bf fn->IJ P G (k+i) fn:=by
 intro l k h
 induction h with
 | nil=>intro i fn hi;cases hi
 | has h t a=>
  intro i fn hi
  cases i with
  | zero=>cases hi;exact h
  | succ i=>
   have:=a i fn hi;rwa [bk,dj 1 i]at this
 | no t a=>
  intro i fn hi
  cases i with
  | zero=>cases hi
  | succ i=>
   have:=a i fn hi;rwa [bk,dj 1 i]at this
theorem C1.get{l:List (Nat×sR)}(h:C1 P G l):∀(i:Nat) (R:sR),assoc l i=bf R->xC P G i R:=by
 induction h with
 | nil=>intro i R hi;cases hi
 | @cons k b l h t a=>
  intro i R hi;simp only[assoc]at hi;split at hi
  .rename_i e;subst e;cases hi;exact h
  .exact a i R hi
theorem atT{l:List (Option kn)}{r:List (Nat×sR)}{a:eh->Option Nat}(d:G.rt=CE P)(h:zF P G 0 l)(j:C1 P G r){b:eh->Bool}(i:∀f sz,a f=bf sz->zL P f sz)(g:∀f,b f=ej->C2 P f){c:eh->Bool}(e:∀f,c f=ej->CP P f):S4 P G { fn:=nth l,round:=assoc r,sort:=a,vI:=b,uV:=c } where
 sort:=i
 vI:=g
 uV:=e
 rt:=d
 fn f fn hf:=by have:=h.get f fn hf;rwa [aR]at this
 round:=j.get
