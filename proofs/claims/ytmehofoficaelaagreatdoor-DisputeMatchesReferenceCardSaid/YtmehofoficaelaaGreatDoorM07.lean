/- Part 7 of DisputeMatchesReference. -/
import Derived.Test.YtmehofoficaelaaGreatDoorM06
import Derived.KernelRfl
set_option linter.all false
open Option renaming some→aE,none→bb
open List renaming getElem?_eq_getElem→bs,all_eq_true→cj,mem_singleton→dr,getElem?_range'→eh,range→ek,replicate→en,length→List.l
open Nat renaming le_refl→b4,le_trans→di
open Bool renaming true→cp,false→dx
namespace Go.AL
open Go
def CC(P:Program)(G:GT)(g:FuncId)(args:List D)(d:D)(Hn:gg):Prop:=uu P g=cp/\Aa P G g args [] d Hn
def outs(R:qy->Prop):Out->Prop:=λo=>R (.out o)
def Gt(R:qy->Prop):D->gg->Prop:=λd H=>R (.val d H)
def Good(P:Program)(G:GT):B0->(qy->Prop)->Prop
 | .ops l s,R=>∀(N:Nat) (A:Array Oper) (ops:List Oper),qJ P G N A ops=aE l ->
   ∀(e:Option Nat) (n:Nat) (Q:Exit->Act->World->Prop) (c:Ctx) (w:World) (a:Act),(s.iM=dx->e=bb)->l3 G N c w s a->yR G N s.H.l s.iM c s.H w (outs R) Q->wpListIn (FW e) n P A Q ops a w
 | .code ir s,R=>∀(N:Nat) (code:Code),o4 P G N ir code ->
   ∀(e:Option Nat) (n:Nat) (Q:Exit->Act->World->Prop) (c:Ctx) (w:World) (a:Act),(s.iM=dx->e=bb)->l3 G N c w s a->yR G N s.H.l s.iM c s.H w (outs R) Q->code.wpIn (FW e) n P Q a w
 | .loop n0 _ ir s,R=>n0<=s.H.l->∀(N:Nat) (code:Code),o4 P G N ir code ->
   ∀(e:Option Nat) (n:Nat) (Q:Exit->Act->World->Prop) (c:Ctx) (w:World) (a:Act),(s.iM=dx->e=bb)->l3 G N c w s a->yR G N n0 s.iM c s.H w (outs R) Q->Ns (FW e) n P code Q a w
 | .call f args H,R=>wR P G f args H (Gt R)
 | .trace l s,R=>∃rs d,R (.tr rs d)/\s.H.l<=d.H.l/\d.marks=s.marks/\d.iM=s.iM/\∀(K k0:Nat),d.H.l<=K->∃b:List nJ,b.map (·.e)=l/\b.map (·.rc)=rs/\b.map (·.k)=List.range' k0 l.l /\
   Tx (CC P G) s.env.get (s.H++room (K-s.H.l)) b d.env.get (d.H++room (K-d.H.l))
section
variable{P:Program}{G:GT}{T:iL}
theorem yR.mono{N n m:Nat}{iM:Bool}{c b:Ctx}{H H1:gg}{w w1:World}{R:Out->Prop}{Q:Exit->Act->World->Prop}(h:yR G N n iM c H w R Q)(hs:Step n c H w b H1 w1)(a:n<=m):yR G N m iM b H1 w1 R Q:=
 λo c' w' g e d hl gu f=>h o c' w' g e d (di a hl) gu (hs.trans f a)
theorem HK{N:Nat}{A:Array Oper}{o:Oper}{r:List Oper}{l:List iz}(h:qJ P G N A (o::r)=aE l) :
  ∃e a,l=e::a/\x8 P G N A o=aE e/\qJ P G N A r=aE a:=by
 simp only[qJ]at h;split at h
 .grind
 .cases h
theorem aeC{N:Nat}{A:Array Oper}{ops:List Oper}(h:qJ P G N A ops=aE []):ops = []:=by
 cases ops with
 | nil=>rfl
 | cons o r=>
  obtain⟨e,a,h1,_⟩:=HK h;cases h1
theorem W3{N:Nat}{A:Array Oper}:∀ {l es:List iz} {ops:List Oper},qJ P G N A ops=aE (l++es)->∃b a,ops=b++a/\qJ P G N A b=aE l/\qJ P G N A a=aE es
 | [],es,ops,h=>⟨[],ops,rfl,rfl,h⟩
 | e::l,es,ops,h=>by
  cases ops with
  | nil=>cases h
  | cons o r=>
   obtain⟨j,i,h1,g,f⟩:=HK h;cases h1;obtain⟨b,a,rfl,d,c⟩:=W3 f;exact⟨o::b,a,rfl,by simp only[qJ,g,d],c⟩
theorem W4{N:Nat}{A:Array Oper}:∀ {ops:List Oper} {l:List iz},qJ P G N A ops=aE l->ops.l=l.l/\∀(i:Nat) (o:Oper) (e:iz),ops[i]? = aE o->l[i]? = aE e->x8 P G N A o=aE e:=by
 intro ops
 induction ops with
 | nil=>intro l h;cases h;exact⟨rfl,λi o e h=>by simp at h⟩
 | cons o r f=>
  intro l h;obtain⟨e,g,rfl,h1,c⟩:=HK h;obtain⟨q1,q2⟩:=f c;refine⟨by simp[q1],λi o' d a b=>?_⟩
  cases i with
  | zero=>simp at a b;subst a;subst b;exact h1
  | succ i=>exact q2 i o' d (by simpa using a) (by simpa using b)
theorem Ch{N:Nat}{A:Array Oper}{ops:List Oper}{e:iz}{l:List iz}(h:qJ P G N A ops=aE (e::l)) :
  ∃o r,ops=o::r/\x8 P G N A o=aE e/\qJ P G N A r=aE l:=by
 cases ops with
 | nil=>cases h
 | cons o r=>
  obtain⟨d,c,h1,b,a⟩:=HK h;cases h1;exact⟨o,r,rfl,b,a⟩
theorem ac7{N:Nat}{c:Ctx}{w:World}{s:St}{a:Act}{b:Option Nat}{n:Nat}{o:Oper}{g:jh}{f:FuncId}{args:List D}{next:Act->World->Prop}{Q:Exit->Act->World->Prop}(hs:l3 G N c w s a)(i:oR P G o=aE g)
  (x:uX N o.dst=cp) (q:lB s.env.get g=aE (f,args)) (m:uu P f=cp) {R:D->gg->Prop}
  (p:∀vs:List Value,j' c w vs args->Calls P f vs.toArray w λe w'=>∃v c' d H',e = .returned v/\R d H'/\gL G c' H' w'/\gq c' w' v d/\Step s.H.l c s.H w c' H' w')
  (k:∀d H' c' w' l,R d H'->l3 G N c' w' { s with env:=put s.env o.dst d,H:=H' } l->Step s.H.l c s.H w c' H' w'->next l w'):o.wpIn (FW b) n P a w next Q:=by
 obtain⟨vs,t,r⟩:=Ql hs.gu hs.env i q m;refine⟨λ_ _=>trivial,?_⟩;rw[Oper.semAt_plain (FW b) a.eval o (Dy i),t];refine⟨λh=>by simp[Fence.wide]at h,Hx.2 ((p vs r).mono ?_)⟩;rintro e w' ⟨v,c',d,H',rfl,y,gu,u,j⟩;exact k d H' c' w' _ y (hs.next gu j x u) j
theorem adq{s s1:St}{dst:Option Nat}{args:List D}{r:D}{Hn:gg}(h:after s dst args r Hn=aE s1) :
  (if gN args then od r&&Hn.all pq else p5 r&&Hn.all rl)=cp/\s1 = { s with env:=put s.env dst (lz s.H.l r),H:=s.H++Hn }:=by
 unfold after at h;generalize (if gN args=cp then od r&&Hn.all pq else p5 r&&Hn.all rl)=b at h;cases b
 .cases h
 .grind
theorem abX{P:Program}{G:GT}{o:Oper}{b:jh}(a:oR P G o=aE b):Qw b=false:=by
 unfold oR at a;split at a
 all_goals try simp only[aF,ag,aI]at a
 all_goals (repeat' first|(obtain⟨_,_,a⟩:=a)|split at a|simp only[ag]at a)
 all_goals first|rfl|(cases a;done)|(cases a;rfl)|(split<;>rfl)
theorem aoo{P:Program}{G:GT}{o:Oper}{x:X}(a:oR P G o=aE (.nextM x)):False:=by have:=abX a;cases this
theorem aoq{P:Program}{G:GT}{o:Oper}{a:jh}(b:oR P G o=aE a){f:il}{H:gg}{n:Nat}{r:D×Dl}(h:nv f H n a=aE r):False:=by have:=abX b;cases a<;>first|(cases h;done)|(cases this;done)
theorem aoP{fn:jK}(s:St)(ms:List Nat):AL.results fn { s with marks:=ms }=AL.results fn s:=by
 have h1:∀x,F' { s with marks:=ms } x=F' s x:=λx=>by cases x<;>rfl
 have b:∀l,wL { s with marks:=ms } l=wL s l:=by
  intro l
  induction l with
  | nil=>rfl
  | cons x r a=>simp only[wL,h1,a]
 simp only[AL.results,b]
theorem agW(hM:P.follows .mixedOrders=cp)(hT:QU P G T){j:B0}{R:qy->Prop}(h:Ev T j R):Good P G j R:=by
 induction h with
 | @mono j R R' h hi O=>
  cases j with
  | ops l s=>exactλN A ops D J n Q c w a L hs B=>O N A ops D J n Q c w a L hs λo c' w' X Z=>B o c' w' X (hi _ Z)
  | code ir s=>exactλN code D J n Q c w a L hs B=>O N code D J n Q c w a L hs λo c' w' X Z=>B o c' w' X (hi _ Z)
  | loop n0 live ir s=>exactλhn N code D J n Q c w a L hs B=>O hn N code D J n Q c w a L hs λo c' w' X Z=>B o c' w' X (hi _ Z)
  | call f args H=>exactλc w vs h1 W=>(O c w vs h1 W).mono λ_ _ ⟨v,c',d,H',he,Z,r⟩=>⟨v,c',d,H',he,hi _ Z,r⟩
  | trace l s=>
   obtain⟨rs,I,h1,W⟩:=O;exact⟨rs,I,hi _ h1,W⟩
 | @sort f g fn sz v gen t H R α fc l cf hs hg hl gP h0 yi FP tr nt D hv k xD=>
  obtain⟨func,code,h1,W,t1,t2,t3,_⟩:=(hT.fn g fn hg).ex;exact apU (hT.sort f sz hs) t3 fc l hl gP h0 yi cf FP tr nt (λx hx y hy c w vs h1 W=>(xD x hx y hy c w vs h1 W).mono λ_ _ ⟨v,c',d,H',he,Z,r⟩=>⟨v,c',d,H',he,by obtain⟨_,e⟩:=Z;cases e;rfl,r⟩) hv k
 | @Gk f sz x H R hs k=>exact apT (hT.sort f sz hs) (f:=f) (g:=0) k
 | @uM f v gen t H R l hs h0 yi hv k=>exact apW (hT.uM f hs) l h0 yi hv k
 | @uq f v gen t zs H R l i hs hi hv k=>exact aeO (hT.uq f hs) l i hi hv k
 | @nil s R h=>
  intro N A ops D J n Q c w a L hs B;rw[aeC D];exact B _ c w a h rfl (b4 _) hs (Step.refl _ _ _ _)
 | @op e r s d δ R hg h t O=>
  have E:s.H.l<=(δ.app s.H (Al.last s.H)).l:=QY δ s.H;intro N A ops D J n Q c w a L hs B;obtain⟨o,r',rfl,ho,oV⟩:=Ch D;obtain⟨s1,s2,s3,s4⟩:=AH ho;have hw:=wP hs.env s4 hg;simp only[wpListIn,hw,if_true];have s1:=WY s1 h;refine aqm hs s1 s3 (oD.last s.H) h λc' w' X V Y=>?_;rw[<-s2]at V;exact O N A r' oV J n Q c' w' X L V (B.mono Y E)
 | @DT e r s d δ R hg h t O=>
  have E:s.H.l<=(δ.app s.H (Al.last s.H)).l:=QY δ s.H;intro N A ops D J n Q c w a L hs B;obtain⟨o,r',rfl,ho,oV⟩:=Ch D;obtain⟨s1,s2,s3,s4⟩:=AH ho;have hw:=wP hs.env s4 hg;simp only[wpListIn,hw,if_true];have s1:=s1.resolve_left λW=>aoq W h;refine aqo hs s1 s3 (oD.last s.H) h λc' w' X V Y=>?_;rw[<-s2]at V;exact O N A r' oV J n Q c' w' X L V (B.mono Y E)
 | @off e r s R hg t O=>
  intro N A ops D J n Q c w a L hs B;obtain⟨o,r',rfl,ho,oV⟩:=Ch D;obtain⟨s1,s2,s3,s4⟩:=AH ho;have hw:=wP hs.env s4 hg;simp only[wpListIn,hw,bG,if_false];refine⟨λ_ _=>trivial,?_⟩;have V:=hs.next hs.gu (Step.refl _ _ _ _) s3 (v:=undef) (d:=.val undef) (.val _)
  rw[<-s2]at V;rw[<-s2];exact O N A r' oV J n Q c w _ L (by rw[s2]at V ⊢;exact V) B
 | @mQ l s R S hm t O=>
  have a0:(mQ S s).H.l=s.H.l:=RU;intro N A ops D J n Q c w a L hs B;obtain⟨c',V,Y,_⟩:=YF hs S;refine O N A ops D J n Q c' w a L V ?_;rw[a0];exact B.mono Y (b4 _)
 | @H9 code s R S hm t O=>
  have a0:(mQ S s).H.l=s.H.l:=RU;intro N code D J n Q c w a L hs B;obtain⟨c',V,Y,_⟩:=YF hs S;refine O N code D J n Q c' w a L V ?_;rw[a0];exact B.mono Y (b4 _)
 | @RR l s R live t O=>
  intro N A ops D J n Q c w a L hs B;exact O N A ops D J n Q c w a L ⟨hs.gu,EK hs.env live,hs.size,hs.marks⟩ B
 | @H8 code s R live t O=>
  intro N code D J n Q c w a L hs B;exact O N code D J n Q c w a L ⟨hs.gu,EK hs.env live,hs.size,hs.marks⟩ B
 | @Hw e r s f args fn R1 R hg D hf hp h ha t xD O=>
  intro N A ops rn J n Q c w a L hs B;obtain⟨o,r',rfl,ho,oV⟩:=Ch rn;obtain⟨s1,s2,s3,s4⟩:=AH ho;have hw:=wP hs.env s4 hg;simp only[wpListIn,hw,if_true];obtain⟨func,code,h1,W,t1,t2,t3,_⟩:=(hT.fn f fn hf).ex
  have jR:∀d Hn,Gt R1 d Hn->(if gN args then od d&&Hn.all pq else p5 d&&Hn.all rl)=cp/\after s e.dst args d Hn=aE { s with env:=put s.env e.dst (lz s.H.l d),H:=s.H++Hn }:=λd Hn Z=>by obtain⟨I,V⟩:=dt.1 (ha d Hn Z);obtain⟨k1,rfl⟩:=adq V;exact⟨k1,V⟩
  have s1:=HE s1 D;refine ac7 hs s1 s3 D t3 (R:=λd H'=>∃d0 Hn,Gt R1 d0 Hn/\d=lz s.H.l d0/\H'=s.H++Hn) (λvs iP=>(aox hs.gu iP xD λd Hn Z=>(jR d Hn Z).1).mono ?_) ?_
  .grind
  .rintro d H' c' w' X ⟨d0,Hn,Z,rfl,rfl⟩ V Y;rw[<-s2]at V;exact O d0 Hn _ Z (jR d0 Hn Z).2 N A r' oV J n Q c' w' X L V (B.mono Y gf)
 | @Hv e r s f args fn R1 R hg D hf hp h t xD O=>
  intro N A ops rn J n Q c w a L hs B;obtain⟨o,r',rfl,ho,oV⟩:=Ch rn;obtain⟨s1,s2,s3,s4⟩:=AH ho;have hw:=wP hs.env s4 hg;simp only[wpListIn,hw,if_true];obtain⟨func,code,h1,W,t1,t2,t3,_⟩:=(hT.fn f fn hf).ex;have s1:=HE s1 D;refine ac7 hs s1 s3 D t3 (R:=λd H'=>Gt R1 d H'/\s.H.l<=H'.l) (λvs iP=>(xD c w vs hs.gu iP).mono ?_) ?_
  .grind
  .rintro d H' c' w' X ⟨Z,E⟩ V Y;rw[<-s2]at V;exact O d H' Z N A r' oV J n Q c' w' X L V (B.mono Y E)
 | @NI e r s v args rf env0 Rd Ra Rb R hg D hv Z hl ha hn hb hm t sc yB xE=>
  intro N A ops rn J n Q c w a L hs B;obtain⟨o,r',rfl,ho,oV⟩:=Ch rn;obtain⟨s1,s2,s3,s4⟩:=AH ho;have hw:=wP hs.env s4 hg;simp only[wpListIn,hw,if_true];obtain⟨M,ps,ac,bc,xh,O',gW,SA,r5⟩:=(hT.round rf Rd Z).ex;rw[<-O']at hl sc gW
  have s1:=s1.resolve_right λW=>by
   have:=Rk W;unfold yieldOf at D;split at D
   .rename_i r4;rw[r4]at this;cases this
   .cases D
  refine aqp hs s1 s3 D hv xh (by simpa using hl) (λp hp=>by simpa using cj.1 gW p hp) (Ra:=outs Ra) (Rb:=outs Rb) ?_ hn ?_ hm ?_
  .exact λJ n Q c w a V lJ=>sc M ac SA J n Q c w a (λh=>by cases h) V lJ
  .intro s1 l4 A2 qp oX J n Q c w a V lJ;have:=yB s1 l4 A2 oX M bc r5 J n Q c w a (λh=>by simp[qp]at h) V;simp only[az,qp]at this;exact this lJ
  .intro q mj c' w' X A3 pE E V Y;rw[<-s2]at V;exact xE q mj A3 pE N A r' oV J n Q c' w' X L V (B.mono Y (by simpa using E))
 | @next e r s x v m since seen kk es R hg iW hx hv hm pD h0 h1 r3 vj=>
  intro N A ops rn J n Q c w a L hs B;obtain⟨o,r',rfl,ho,oV⟩:=Ch rn;obtain⟨s1,s2,s3,s4⟩:=AH ho;have hw:=wP hs.env s4 hg;simp only[wpListIn,hw,if_true];rw[iW]at s1;have s1:=s1.resolve_left λW=>aoo W;refine aql hs s1 s3 hx hv hm pD ?_ ?_
  .intro kb c' w' X V Y;rw[<-s2]at V;exact r3 kb N A r' oV J n Q c' w' X L V (B.mono Y (b4 _))
  .intro i k d hi Ft c' w' X V Y;rw[<-s2]at V;exact vj i k d hi Ft N A r' oV J n Q c' w' X L V (B.mono Y gf)
 | @skip s R h=>
  intro N code D J n Q c w a L gu B;cases D;exact wpIn_skip (B _ c w a h rfl (b4 _) gu (Step.refl _ _ _ _))
 | @HJ l s R h O=>
  intro N code D J n Q c w a L gu B
  cases D with
  | ops h=>exact wpIn_region_list (O N _ _ h J n Q c w a L gu B)
 | @seq a b s R1 R h k hs vj xC=>
  intro N code D J n Q c w a L gu B
  cases D with
  | seq h1 W=>
   refine wpIn_seq (vj N _ h1 J n _ c w a L gu λo c' w' X Z qp E tS Y=>?_)
   cases o with
   | norm I=>
    have Pe:I.iM=s.iM:=qp;refine xC I Z N _ W J n Q c' w' X (λh=>L (by rw[<-Pe];exact h)) tS ?_;rw[Pe];exact B.mono Y E
   | exit id I=>exact B _ c' w' X (hs _ Z rfl) qp E tS Y
   | ret I=>exact B _ c' w' X (hs _ Z rfl) qp E tS Y
 | @cond c a b s x R D h O=>
  intro N code rn J n Q c w a L gu B
  cases rn with
  | @cond cx ca cb _ _ _ hx h1 W=>
   have hr:=jj gu.gu gu.env hx;rw[D]at hr
   have he:a.eval cx = .bool x:=by generalize a.eval cx=u at hr;cases hr;rfl
   refine wpIn_cond he ?_;cases x
   .exact O N _ W J n Q c w a L gu B
   .exact O N _ h1 J n Q c w a L gu B
 | @block id live a s R1 R h k O=>
  have a0:∀I:St,s.H.l<=I.H.l->s.H.l<=(cut s.H.l live I).H.l:=by
   intro I h1;unfold cut;split
   .exact h1
   .dsimp only;rw[Qr];simp[jC]
  have Z6:∀I:St,(cut s.H.l live I).iM=I.iM:=by intro I;unfold cut;split<;>rfl
  intro N code D J n Q c w a L gu B
  cases D with
  | block h1=>
   refine wpIn_block (O N _ h1 J n _ c w a L gu λo c' w' X Z qp E tS Y=>?_);have qn:=k o Z
   cases o with
   | norm I=>
    obtain⟨c2,ot,uH,_⟩:=Cj tS E live;exact B (.norm (cut s.H.l live I)) c2 w' X qn ((Z6 I).trans qp) (a0 I E) ot (Y.trans uH (b4 _))
   | exit Bp I=>
    by_cases SR:Bp=id
    .subst SR;obtain⟨c2,ot,uH,_⟩:=Cj tS E live;simp only[mz,if_true]at qn;have:=B (.norm (cut s.H.l live I)) c2 w' X qn ((Z6 I).trans qp) (a0 I E) ot (Y.trans uH (b4 _));simp only[Out.ex,Exit.inBlock,if_true]at this ⊢;exact this
    .simp only[mz,if_neg SR]at qn;have:=B _ c' w' X qn qp E tS Y;simp only[Out.ex,Exit.inBlock,if_neg SR]at this ⊢;exact this
   | ret I=>exact B _ c' w' X qn qp E tS Y
 | @J7 s R Z=>
  exact⟨[],s,Z,b4 _,rfl,rfl,λK k0 hK=>⟨[],rfl,rfl,rfl,.nil⟩⟩
 | @J9 e r s d δ R1 R hg h t k O=>
  obtain⟨rs,I,uz,i1,i2,i4,i3⟩:=O;refine⟨_,I,k _ _ uz,di (QY δ s.H) i1,i2,i4,λK k0 hK=>?_⟩;obtain⟨z,e1,e2,e3,zi⟩:=i3 K (k0+1) hK;obtain⟨a1,a2⟩:=QZ (adw h) K (di i1 hK);refine⟨⟨k0,e,s.H.l,⟨ik s.env.get s.H e.op,kC s.H.l δ⟩⟩::z,by simp[e1],by simp[e2],by simp[e3,cS],?_⟩
  have hE:Ef (CC P G) s.env.get (s.H++room (K-s.H.l)) e s.H.l ⟨ik s.env.get s.H e.op,kC s.H.l δ⟩ d δ:=by have:=Ef.op (C:=CC P G) (f:=s.env.get) (H:=s.H++room (K-s.H.l)) (e:=e) (n:=s.H.l) hg (by rw[adv];exact h) a2;rwa [Ow]at this
  refine .cons hE ?_;rw[a1];have hp:(put s.env e.dst d).get=nP s.env.get e.dst d:=JD _ _ _;rw[<-hp];exact zi
 | @J8 e r s R1 R hg t k O=>
  obtain⟨rs,I,uz,i1,i2,i4,i3⟩:=O;refine⟨_,I,k _ _ uz,i1,i2,i4,λK k0 hK=>?_⟩;obtain⟨z,e1,e2,e3,zi⟩:=i3 K (k0+1) hK;refine⟨⟨k0,e,0,⟨[],[]⟩⟩::z,by simp[e1],by simp[e2],by simp[e3,cS],.cons (.off hg) ?_⟩;have hp:(put s.env e.dst (.val undef)).get=nP s.env.get e.dst (.val undef):=JD _ _ _;rw[<-hp];exact zi
 | @J4 e r s f args fn d R0 R1 R hg D hf hp h h0 hr t k xD O=>
  obtain⟨rs,I,uz,i1,i2,i4,i3⟩:=O;refine⟨_,I,k _ _ uz,i1,i2,i4,λK k0 hK=>?_⟩;obtain⟨z,e1,e2,e3,zi⟩:=i3 K (k0+1) hK;refine⟨⟨k0,e,0,⟨ik s.env.get s.H e.op,[]⟩⟩::z,by simp[e1],by simp[e2],by simp[e3,cS],?_⟩;obtain⟨func,code,h1,W,t1,t2,t3,_⟩:=(hT.fn f fn hf).ex
  have hE:Ef (CC P G) s.env.get (s.H++room (K-s.H.l)) e 0 ⟨ik s.env.get s.H e.op,[]⟩ d .no:=by have e0:args.map (gA (λ_=>bb) (s.H++room (K-s.H.l)) 40)=args.map (gA (λ_=>bb) s.H 40):=aw λd _=>(JJ 40 d).2;have:=Ef.call (C:=CC P G) (f:=s.env.get) (H:=s.H++room (K-s.H.l)) (e:=e) (n:=0) hg D (by rw[e0];exact⟨t3,xD.one h0⟩) hr;rwa [Ow]at this
  refine .cons hE ?_;have hp:(put s.env e.dst d).get=nP s.env.get e.dst d:=JD _ _ _;rw[<-hp];exact zi
 | @J5 e r s f yX args fn d ob R0 R1 R hg iW ha hf hp h h0 hr t k xD O=>
  obtain⟨rs,I,uz,i1,i2,i4,i3⟩:=O;have E:s.H.l<=(s.H ++ [ob]).l:=gf;refine⟨_,I,k _ _ uz,di E i1,i2,i4,λK k0 hK=>?_⟩;obtain⟨z,e1,e2,e3,zi⟩:=i3 K (k0+1) hK;have Tm:Safe s.H (.new ob):=trivial;obtain⟨a1,a2⟩:=QZ (δ:=.new ob) Tm K (by have:(s.H ++ [ob]).l<=K:=di i1 hK;simpa[Dl.app,Al.last]using this);refine⟨⟨k0,e,s.H.l,⟨ik s.env.get s.H e.op,[(s.H.l,bb)]⟩⟩::z,by simp[e1],by simp[e2],by simp[e3,cS],?_⟩;obtain⟨func,code,h1,W,t1,t2,t3,_⟩:=(hT.fn f fn hf).ex
  have hE:Ef (CC P G) s.env.get (s.H++room (K-s.H.l)) e s.H.l ⟨ik s.env.get s.H e.op,[(s.H.l,bb)]⟩ (lz s.H.l d) (.new ob):=by have e0:args.map (gA (λ_=>bb) (s.H++room (K-s.H.l)) 40)=args.map (gA (λ_=>bb) s.H 40):=aw λd _=>(JJ 40 d).2;have:=Ef.callN (C:=CC P G) (f:=s.env.get) (H:=s.H++room (K-s.H.l)) (e:=e) (n:=s.H.l) hg iW ha (by rw[e0];exact⟨t3,xD.one h0⟩) hr a2;rwa [Ow]at this
  refine .cons hE ?_;have QV:mh s.H.l (.new ob) (s.H++room (K-s.H.l))=(s.H ++ [ob])++room (K-(s.H ++ [ob]).l):=a1;show Tx (CC P G) (nP s.env.get e.dst (lz s.H.l d)) (mh s.H.l (.new ob) (s.H++room (K-s.H.l))) z _ _;rw[QV];have hp:(put s.env e.dst (lz s.H.l d)).get=nP s.env.get e.dst (lz s.H.l d):=JD _ _ _;rw[<-hp];exact zi
 | @J6 e r s f yX args fn d v R0 R1 R hg iW ha hf hp hS hv iw gP h h0 hr t k xD O=>
  obtain⟨rs,I,uz,i1,i2,i4,i3⟩:=O;have E:s.H.l<=(s.H.set v .dead).l:=gf;refine⟨_,I,k _ _ uz,di E i1,i2,i4,λK k0 hK=>?_⟩;obtain⟨z,e1,e2,e3,zi⟩:=i3 K (k0+1) hK
  have js:v<s.H.l:=by
   unfold rowsOf at iw;split at iw
   .grind
   .cases iw
  have Tm:Safe s.H (.obj v .dead):=js;obtain⟨a1,a2⟩:=QZ (δ:=.obj v .dead) Tm K (by have:(s.H.set v .dead).l<=K:=di i1 hK;simpa[Dl.app]using this);refine⟨⟨k0,e,0,⟨ik s.env.get s.H e.op,[(v,bb)]⟩⟩::z,by simp[e1],by simp[e2],by simp[e3,cS],?_⟩;obtain⟨func,code,h1,W,t1,t2,t3,_⟩:=(hT.fn f fn hf).ex
  have hE:Ef (CC P G) s.env.get (s.H++room (K-s.H.l)) e 0 ⟨ik s.env.get s.H e.op,[(v,bb)]⟩ d (.obj v .dead):=by have e0:args.map (gA (λ_=>bb) (s.H++room (K-s.H.l)) 40)=args.map (gA (λ_=>bb) s.H 40):=aw λd _=>(JJ 40 d).2;have e4:args.map (iO (s.H++room (K-s.H.l)) 40)=args.map (iO s.H 40):=aw λd _=>(JJ 40 d).1;have:=Ef.Ce (C:=CC P G) (f:=s.env.get) (H:=s.H++room (K-s.H.l)) (e:=e) (n:=0) (v:=v) hg iW ha (by rw[e4];exact hS) (by rw[e4];exact hv) (by rw[US];exact iw) (by rw[e0];exact⟨t3,xD.one h0⟩) (by rw[e0];exact gP) hr;rwa [Ow]at this
  refine .cons hE ?_;have QV:mh 0 (.obj v .dead) (s.H++room (K-s.H.l))=(s.H.set v .dead)++room (K-(s.H.set v .dead).l):=a1;show Tx (CC P G) (nP s.env.get e.dst d) (mh 0 (.obj v .dead) (s.H++room (K-s.H.l))) z _ _;rw[QV];have hp:(put s.env e.dst d).get=nP s.env.get e.dst d:=JD _ _ _;rw[<-hp];exact zi
 | @mO kf l s R1 R t hp O=>
  obtain⟨rs,I,uz,i1,i2,i4,i3⟩:=O;obtain⟨hp,CO⟩:=hp rs I uz;intro N code D J n Q c w a L gu B
  cases D with
  | @mO _ _ id A ord zn he ho pV=>
   obtain⟨z,e1,e2,e3,CP⟩:=i3 I.H.l 0 (b4 _);have a0:z.l=l.l:=by rw[<-e1];simp
   have gP:∀(ops:List Oper) (l:List iz),qJ P G N A ops=aE l->ops.l=l.l/\∀(i:Nat) (o:Oper) (e:iz),ops[i]? = aE o->l[i]? = aE e->x8 P G N A o=aE e:=by
    intro ops
    induction ops with
    | nil=>intro l h;cases h;exact⟨rfl,λi o e h=>by simp at h⟩
    | cons o r TL=>
     intro l h;obtain⟨e,l',rfl,h1,W⟩:=HK h;obtain⟨q1,q2⟩:=TL l' W;refine⟨by simp[q1],λi o' e' ho he=>?_⟩
     cases i with
     | zero=>simp at ho he;subst ho;subst he;exact h1
     | succ i=>exact q2 i o' e' (by simpa using ho) (by simpa using he)
   obtain⟨q1,q2⟩:=gP _ _ zn;have hA:A.size=l.l:=by rw[<-q1];simp
   have jU:∀(i:Nat) (it:nJ),z[i]? = aE it->it.k=i/\l[i]? = aE it.e/\rs[i]? = aE it.rc:=by
    intro i it hi;have gW:=(ae.1 hi).1;refine⟨?_,by rw[<-e1];simp[hi],by rw[<-e2];simp[hi]⟩;have:(z.map (·.k))[i]? = aE it.k:=by simp[hi]
    rw[e3,eh U]at this;simpa using this.symm
   refine wpIn_region_any hM ?_;have qq:gL G c s.H { w with drawn:=w.drawn+1 }:=gu.gu.rm (kN.drew w);have IW:Step s.H.l c s.H w c s.H { w with drawn:=w.drawn+1 }:=DZ _ (kN.drew w)
   have Tr:SX G N c { w with drawn:=w.drawn+1 } s.env.get (s.H++room (I.H.l-s.H.l)) s.marks a:=
    ⟨acn qq _,lO.carry (λ_ _ h=>h.rG gu.gu.toHeapOK IW) gu.env,gu.size,gu.marks⟩
   refine V7 (C:=CC P G) (λg args d Hn h=>h) he ho A.size z _ c _ _ _ a U ?_ Tr CP ?_ ?_ λc' w' X V Y=>?_
   .refine⟨gf,λj hj=>?_,?_,λit kJ=>?_,λi hi hl=>?_⟩
    .refine⟨λ_=>⟨z[j]' U,bU _,(jU j _ (bs _)).1⟩,λ_=>by simp[hj]⟩
    .rw[bz];intro i j hi hj C3;rw[(jU i _ (bs hi)).1,(jU j _ (bs hj)).1];exact C3
    .obtain⟨i,hi⟩:=aH.1 kJ;have gW:=(ae.1 hi).1;rw[(jU i it hi).1];omega
    .simp_all
   .intro it kJ;obtain⟨i,hi⟩:=aH.1 kJ;have gW:=(ae.1 hi).1;obtain⟨k1,k2,k3⟩:=jU i it hi;refine⟨A[i]' U,by rw[k1];simp,q2 i _ _ gf k2⟩
   .intro p zz q hq Bg;obtain⟨i,hi⟩:=aH.1 zz;obtain⟨j,hj⟩:=aH.1 hq;obtain⟨p1,p2,p3⟩:=jU i p hi;obtain⟨UB,UD,q3⟩:=jU j q hj;rw[p1,UB]at Bg ⊢;have gW:=(ae.1 hj).1;have:=cj.1 (cj.1 pV j (br.2 U)) i (br.2 Bg);simp only[p2,UD,b9,ai,dD]at this;rcases this with h|⟨h1,W⟩
    .exact .inl h
    .refine .inr ⟨h1,?_⟩;rcases W with W|W
     .have:=cj.1 hp (i,j) W;simp only[p3,q3]at this;exact this
     .obtain⟨_,_,_,_,E1⟩:=CP.each p zz;obtain⟨_,_,_,_,E2⟩:=CP.each q hq;exact acN E1 E2 W
   .simp only[b7,room,eR,aD]at V Y;refine B _ c' w' X CO i4 i1 ⟨V.gu,V.env,V.size,by show tF c' I.marks _;rw[i2];exact V.marks⟩ ?_;have h1:=IW.trans (aco (c:=c) (w:={ w with drawn:=w.drawn+1 }) (H:=s.H) (I.H.l-s.H.l) s.H.l) (b4 _);exact h1.trans Y gf
 | @nT kf l es s R1 R t hp k O zJ=>
  obtain⟨rs,I,uz,i1,i2,i4,i3⟩:=O;have hp:=hp rs I uz;have zJ:=zJ rs I uz;intro N code D J n Q c w a L gu B
  cases D with
  | @nT _ _ _ id A ord zn he ho pV Bb=>
   obtain⟨z,e1,e2,e3,CP⟩:=i3 I.H.l 0 (b4 _);have a0:z.l=l.l:=by rw[<-e1];simp
   obtain⟨o1,o2,Sh,c1,c2⟩:=W3 zn;obtain⟨q1,q2⟩:=W4 c1;obtain⟨q3,_⟩:=W4 c2;have hA:A.size=l.l+es.l:=by rw[<-du,Sh,ar,q1,q3]
   have AX:∀i,i<l.l->A[i]? = o1[i]? := λi hi=>by rw[<-bH,Sh,ah U]
   have r7:∀i,A[l.l+i]? = o2[i]? := λi=>by rw[<-bH,Sh,ak U];congr 1;omega
   have jU:∀(i:Nat) (it:nJ),z[i]? = aE it->it.k=i/\l[i]? = aE it.e/\rs[i]? = aE it.rc/\i<l.l:=by
    intro i it hi;have gW:=(ae.1 hi).1;refine⟨?_,by rw[<-e1];simp[hi],by rw[<-e2];simp[hi],U⟩;have:(z.map (·.k))[i]? = aE it.k:=by simp[hi]
    rw[e3,eh U]at this;simpa using this.symm
   refine wpIn_region_any hM ?_;have qq:gL G c s.H { w with drawn:=w.drawn+1 }:=gu.gu.rm (kN.drew w);have IW:Step s.H.l c s.H w c s.H { w with drawn:=w.drawn+1 }:=DZ _ (kN.drew w)
   have Tr:SX G N c { w with drawn:=w.drawn+1 } s.env.get (s.H++room (I.H.l-s.H.l)) s.marks a:=
    ⟨acn qq _,lO.carry (λ_ _ h=>h.rG gu.gu.toHeapOK IW) gu.env,gu.size,gu.marks⟩
   have O6:∀q∈(es.zipIdx l.l).map (λp=>(⟨p.2,p.1,0,⟨[],[]⟩⟩:nJ)),l.l<=q.k/\q.k<l.l+es.l:=λq hq=>jZ
   have oU:∀k,l.l<=k->k<l.l+es.l->∃p∈(es.zipIdx l.l).map (λp=>(⟨p.2,p.1,0,⟨[],[]⟩⟩:nJ)),p.k=k:=λk h1 W=>
    ⟨⟨k,es[k-l.l]' U,0,⟨[],[]⟩⟩,au.2 ⟨(es[k-l.l]' U,k),by rw[dO];exact⟨h1,gf⟩,rfl⟩,rfl⟩
   have IH:((es.zipIdx l.l).map (λp=>(⟨p.2,p.1,0,⟨[],[]⟩⟩:nJ))).l=es.l:=gf;rw[show A.size=z.l+((es.zipIdx l.l).map (λp=>(⟨p.2,p.1,0,⟨[],[]⟩⟩:nJ))).l by rw[IH];omega];refine V8 (C:=CC P G) (λg args d Hn h=>h) he ho (lasts:=(es.zipIdx l.l).map λp=>⟨p.2,p.1,0,⟨[],[]⟩⟩) (ops:=o2) (λq hq k B=>(Bb q.k (O6 q hq).1 (by simp;exact(O6 q hq).2) k B).imp (λh=>h) λh=>⟨oU k h.1 (by have:=(O6 q hq).2;omega),h.2⟩) ?_ z.l z _ c _ _ _ a rfl ?_ Tr CP ?_ ?_ λc' w' X V Y=>?_
   .refine bY λi=>?_;simp only[b6,ax,List.getElem?_zipIdx]
    cases h:es[i]? with
    | none=>
     have:es.l<=i:=by simpa using h
     simp[cG (l:=o2) (i:=i) U]
    | some e=>
     have:=(ae.1 h).1;simp[r7,bs (l:=o2) (i:=i) U]
   .refine⟨gO,λj hj=>?_,?_,λit kJ=>?_,λi hi hl=>?_⟩
    .refine⟨λ_=>?_,λ_=>by rw[IH];simp[(U:j<z.l+es.l)]⟩
     by_cases oK:j<l.l
     .exact⟨z[j]' U,bK _ (bU _),(jU j _ (bs _)).1⟩
     .refine⟨⟨j,es[j-l.l]' U,0,⟨[],[]⟩⟩,bP _ (au.2 ⟨(es[j-l.l]' U,j),?_,rfl⟩),rfl⟩;rw[dO];exact⟨U,gf⟩
    .refine bR.2 ⟨?_,?_,λp zz q hq=>?_⟩
     .rw[bz];intro i j hi hj C3;rw[(jU i _ (bs hi)).1,(jU j _ (bs hj)).1];exact C3
     .rw[bz];intro i j hi hj C3;simp;omega
     .obtain⟨i,hi⟩:=aH.1 zz;have h1:=jU i p hi;have W:=O6 q hq;omega
    .rcases aj.1 kJ with kJ|kJ
     .obtain⟨i,hi⟩:=aH.1 kJ;have:=jU i it hi;omega
     .grind
    .simp_all
   .intro it kJ;obtain⟨i,hi⟩:=aH.1 kJ;obtain⟨k1,k2,k3,k4⟩:=jU i it hi;have h1:o1[i]? = aE (o1[i]' U):=bs _;exact⟨o1[i]' U,by rw[k1,AX i k4,h1],q2 i _ _ h1 k2⟩
   .intro p zz q hq Bg;obtain⟨i,hi⟩:=aH.1 zz;obtain⟨j,hj⟩:=aH.1 hq;obtain⟨p1,p2,p3,p4⟩:=jU i p hi;obtain⟨UB,UD,q3,q4⟩:=jU j q hj;rw[p1,UB]at Bg ⊢;have:=cj.1 (cj.1 pV j (br.2 gO)) i (br.2 Bg);simp only[ah p4,ah q4,p2,UD,b9,ai,dD]at this;rcases this with h|⟨h1,W⟩
    .exact .inl h
    .refine .inr ⟨h1,?_⟩;rcases W with W|W
     .have:=cj.1 hp (i,j) W;simp only[p3,q3]at this;exact this
     .obtain⟨_,_,_,_,E1⟩:=CP.each p zz;obtain⟨_,_,_,_,E2⟩:=CP.each q hq;exact acN E1 E2 W
   .simp only[b7,room,eR,aD]at V Y;have h1:=IW.trans (aco (c:=c) (w:={ w with drawn:=w.drawn+1 }) (H:=s.H) (I.H.l-s.H.l) s.H.l) (b4 _);have W:=h1.trans Y gf;exact zJ N A o2 c2 J n Q c' w' X (by rw[i4];exact L) ⟨V.gu,V.env,V.size,by show tF c' I.marks _;rw[i2];exact V.marks⟩ (by rw[i4];exact B.mono W i1)
 | @loop live a s R h O=>
  intro N code D J n Q c w a L gu B
  cases D with
  | loop h1=>exact aqk (O (b4 _) N _ h1 J n Q c w a L ⟨gu.gu,EK gu.env live,gu.size,gu.marks⟩ B)
 | @Bt n0 live a s R1 R h k hs vj xC=>
  intro hn N code D J n Q c w a L gu B;refine aiQ (vj N _ D J n _ c w a L gu λo c' w' X Z qp E tS Y=>?_)
  cases o with
  | norm I=>
   have ZL:n0<=I.H.l:=di hn E
   have r9:n0<=(cut n0 live I).H.l:=by
    unfold cut;split
    .exact ZL
    .dsimp only;rw[Qr];simp[jC]
   have wB:(cut n0 live I).iM=s.iM:=by have Pe:I.iM=s.iM:=qp;unfold cut;split<;>exact Pe
   obtain⟨c2,ot,uH,_⟩:=Cj tS ZL live;refine xC I Z r9 N _ D J n Q c2 w' X (λh=>L (by rw[<-wB];exact h)) ot ?_;rw[wB];exact B.mono ((Y.weaken hn).trans uH (b4 _)) (b4 _)
  | exit id I=>exact B _ c' w' X (hs _ Z rfl) qp (di hn E) tS (Y.weaken hn)
  | ret I=>exact B _ c' w' X (hs _ Z rfl) qp (di hn E) tS (Y.weaken hn)
 | @po rf live x s f first cap fn R1 R qp hx hf hp h k O=>
  intro N code D J n Q c w a L gu B;have s5:=L qp;subst s5
  cases D with
  | po Dg xh=>
   obtain⟨func,code,h1,W,t1,t2,t3,_⟩:=(hT.fn f fn hf).ex;exact aqn gu Dg hx t3 xh (live:=live) (R1:=Gt R1) (R:=outs R) O k B
 | @exit id s R h=>
  intro N code D J n Q c w a L gu B;cases D;exact wpIn_exit (B _ c w a h rfl (b4 _) gu (Step.refl _ _ _ _))
 | @ret s R h=>
  intro N code D J n Q c w a L gu B;cases D;exact wpIn_ret (B _ c w a h rfl (b4 _) gu (Step.refl _ _ _ _))
 | @call f args H fn R1 R own hf hl h k O=>
  intro c w vs gu iP;obtain⟨func,code,hs,V,t1,t2,t3,t7,t4,t5,t6⟩:=(hT.fn f fn hf).ex;have wB:=aoE hT.rt t1 t2 t7;rw[t5]at wB;refine callsIn_wide (n:=0) |>.1 (callsIn_of_wp_marks (F:=FW bb) t1 t2 trivial (O fn.ntmps code (Q4 wB t4) bb 0 _ c w _ (λ_=>rfl) ⟨gu,ae1 iP _,?_,.nil⟩ ?_))
  .simp;omega
  .intro o c' w' X Z qp E mG Y;obtain⟨d,H',lI,r6⟩:=k o Z
   have h':∀s:St,o.st=s->∀H1,kill s.marks s.H=aE H1->∀d0,AL.results fn { s with H:=H1 }=aE d0->leave own H.l H1 d0=(d,H') ->
     LeavesInM (FW bb) 0 P func X.tmps (λe w'=>∃v c' d H',e = .returned v/\Gt R d H'/\H.l<=H'.l/\gL G c' H' w'/\gq c' w' v d/\Step H.l c H w c' H' w') X.defers .returning w':=by
    rintro s rfl H1 ahv d0 FA ahx;refine aiD mG.marks mG.gu ahv λw1 q1 q2 q3=>?_;have Pf:l3 G fn.ntmps c' w1 { o.st with H:=H1,marks:=[] } { X with defers:=[] }:=⟨q1,λj=>(mG.env j).rG mG.gu.toHeapOK q2,mG.size,.nil⟩;obtain⟨v,hv,I0⟩:=aoQ Pf t6 (d:=d0) (by rw[<-FA];exact aoP { o.st with H:=H1 } []);have r8:H.l<=H1.l:=by rw[q3];exact E
    obtain⟨c2,k1,k2,k3,k4⟩:=Bs q1 r8 own I0;rw[ahx]at k1 k2 k3 k4;exact⟨v,hv,v,c2,d,H',rfl,r6,k4,k1,k2,(Y.trans q2 E).trans k3 (b4 _)⟩
   have tc:∀s:St,finish fn own H.l (.norm s)=aE (d,H')->∃H1,kill s.marks s.H=aE H1/\∃d0,AL.results fn { s with H:=H1 }=aE d0/\leave own H.l H1 d0=(d,H'):=by
    intro s hf;simp only[finish]at hf;split at hf
    .grind
    .cases hf
   cases o with
   | norm s=>
    obtain⟨H1,q1,d0,q2,q3⟩:=tc s lI;exact h' s rfl H1 q1 d0 q2 q3
   | ret s=>
    obtain⟨H1,q1,d0,q2,q3⟩:=tc s lI;exact h' s rfl H1 q1 d0 q2 q3
   | exit id s=>cases lI
end
def Oe:Value->Value->Bool
 | .int k a,.int k' b=>decide (k=k')&&decide (a=b)
 | .bool a,.bool b=>a == b
 | .string a,.string b=>decide (a.data.toList=b.data.toList)
 | .nilFunc,.nilFunc=>cp
 | .tuple a,.tuple b=>a.toList.isEmpty&&b.toList.isEmpty
 | _,_=>dx
mutual
def qg:D->D->Bool
 | .any,.any=>cp
 | .val a,.val b=>Oe a b
 | .agg a,.agg b=>uY a b
 | .tup a,.tup b=>uY a b
 | .sl n a,.sl m b=>decide (n=m)&&EL a b
 | .gp,.gp=>cp
 | .gh a b c d e,.gh a' b' c' d' e'=>decide (a=a')&&decide (b=b')&&decide (c=c')&&decide (d=d')&&decide (e=e')
 | .ptr a b c,.ptr a' b' c'=>decide (a=a')&&decide (b=b')&&decide (c=c')
 | .gH a,.gH b=>uY a b
 | .gM a,.gM b=>decide (a=b)
 | .jt a,.jt b=>decide (a=b)
 | .fn (.func f) a b,.fn (.func f') a' b'=>decide (f=f')&&uY a a'&&uY b b'
 | _,_=>dx
def uY:List D->List D->Bool
 | [],[]=>cp
 | a::l,b::m=>qg a b&&uY l m
 | _,_=>dx
def EL:List (List D)->List (List D)->Bool
 | [],[]=>cp
 | a::l,b::m=>uY a b&&EL l m
 | _,_=>dx
end
def Co:Env->Env->Bool
 | [],[]=>cp
 | (i,a)::l,(j,b)::m=>decide (i=j)&&qg a b&&Co l m
 | _,_=>dx
def EM:List (Value×D)->List (Value×D)->Bool
 | [],[]=>cp
 | (i,a)::l,(j,b)::m=>Oe i j&&qg a b&&EM l m
 | _,_=>dx
def Rx:Ob->Ob->Bool
 | .row t g a,.row t' g' b=>decide (t=t')&&decide (g=g')&&uY a b
 | .map k a,.map k' b=>decide (k=k')&&EM a b
 | .iE r e s,.iE r' e' s'=>decide (r=r')&&Co e e'&&decide (s=s')
 | .ua a p,.ua b q=>decide (a.data.toList=b.data.toList)&&decide (p=q)
 | .jG m s l,.jG m' s' l'=>qg m m'&&decide (s=s')&&decide (l=l')
 | .ka,.ka=>cp
 | .dead,.dead=>cp
 | .mF,.mF=>cp
 | _,_=>dx
def Cp:gg->gg->Bool
 | [],[]=>cp
 | a::l,b::m=>Rx a b&&Cp l m
 | _,_=>dx
def HS(s t:St):Bool:=Co s.env t.env&&Cp s.H t.H&&decide (s.marks=t.marks)&&(s.iM == t.iM)
def Ry:Out->Out->Bool
 | .norm s,.norm t=>HS s t
 | .exit i s,.exit j t=>decide (i=j)&&HS s t
 | .ret s,.ret t=>HS s t
 | _,_=>dx
def Rz(a b:D×gg):Bool:=qg a.1 b.1&&Cp a.2 b.2
def once{α:Type}(b:α->α->Bool):List α->List α
 | []=>[]
 | [a]=>[a]
 | a::l=>let m:=once b l;if m.any (b a)then m else a::m
def ui{α b:Type}:List α->(α->Option (List b))->Option (List b)
 | [],_=>aE []
 | [a],f=>f a
 | a::l,f=>match f a,ui l f with
  | some x,aE y=>aE (x++y)
  | _,_=>bb
abbrev z':=FuncId->List D->gg->Option (List (D×gg))
abbrev D3:=IR->St->Option (List Out)
def refsOf(s:St)(args:List D):List Nat:=dedup (args.map (iO s.H 40)).flatten
def Qh(cl:z')(e:iz)(f:FuncId)(s:St):Option (List St):=
 match lB s.env.get e.op with
 | none=>bb
 | some (f',args)=>if f'=f then(match cl f (args.map (gA (λ_=>bb) s.H 40)) []with
  | some l=>ui l λp=>match after s e.dst args p.1 p.2 with
   | some a=>aE [a]
   | none=>bb
  | none=>bb)else bb
def UT(T:iL)(cl:z')(e:iz)(s:St):Option (List St):=
 match lB s.env.get e.op with
 | none=>bb
 | some (f,args)=>match T.fn f with
  | none=>bb
  | some fn=>
   match fn.full with
   | true=>match cl f args s.H with
    | some l=>aE (l.map λp=>{ s with env:=put s.env e.dst p.1,H:=p.2 })
    | none=>bb
   | false=>if fn.fz&&s.marks.isEmpty && !gN args then Qh cl e f (mQ (refsOf s args) s)else Qh cl e f s
def UX(T:iL)(rd:D3)(e:iz)(s:St)(v:Nat)(args:List D):Option (List St):=
 match s.H[v]? with
 | some (.iE rf env0 .ready)=>match T.round rf with
  | some Rd=>if args.l=Rd.params.l then
    match rd Rd.a { env:=vG Rd.params args env0,H:=s.H,iM:=cp }with
    | some b=>match ui b λo=>match o with
      | .norm s1=>match s1.H[v]? with
       | some (.iE rf1 l4 .ready)=>if rf1=rf then rd Rd.b { s1 with H:=s1.H.set v (.iE rf l4 .busy) }else bb
       | _=>bb
      | _=>bb with
     | some a=>ui a λo=>match o.st.H[v]? with
      | some (.iE rf2 mj .busy)=>if rf2=rf then aE [{ s with env:=put s.env e.dst (.b !o.stop),H:=o.st.H.set v (.iE rf mj o.BN) }]else bb
      | _=>bb
     | none=>bb
    | none=>bb
   else bb
  | none=>bb
 | _=>bb
def UW(e:iz)(s:St)(x:X):Option (List St):=
 match ev s.env.get x with
 | .ptr v 0 0=>match s.H[v]? with
  | some (.jG (.gM m) since seen)=>match s.H[m]? with
   | some (.map _ es)=>if es.l=since then
     let left:=(ek es.l).filter λi => !seen.contains i
     if left.isEmpty then aE [{ s with env:=put s.env e.dst (.tup [.b dx]) }]else
      aE (left.filterMap λi=>match es[i]? with
       | some (k,d)=>aE { s with env:=put s.env e.dst (.tup [.b cp,tW k,d]),H:=s.H.set v (.jG (.gM m) since (seen ++ [i])) }
       | none=>bb)
    else bb
   | _=>bb
  | _=>bb
 | _=>bb
def yH(T:iL)(cl:z')(rd:D3):List iz->St->Option (List St)
 | [],s=>aE [s]
 | e::r,s=>match guardOf s.env.get e.guard with
  | none=>bb
  | some dx=>yH T cl rd r { s with env:=put s.env e.dst (.val undef) }
  | some cp=>match ie s.env.get s.H s.H.l e.op with
   | some (d,δ)=>yH T cl rd r { s with env:=put s.env e.dst d,H:=δ.app s.H (Al.last s.H) }
   | none=>match nv s.env.get s.H s.H.l e.op with
    | some (d,δ)=>yH T cl rd r { s with env:=put s.env e.dst d,H:=δ.app s.H (Al.last s.H) }
    | none=>match e.op with
     | .nextM x=>match UW e s x with
      | some l=>ui l λa=>yH T cl rd r a
      | none=>bb
     | _=>match yieldOf s.env.get e.op with
      | some (v,args)=>match UX T rd e s v args with
       | some l=>ui l λa=>yH T cl rd r a
       | none=>bb
      | none=>match lB s.env.get e.op with
       | none=>bb
       | some _=>match UT T cl e s with
        | some l=>ui l λa=>yH T cl rd r a
        | none=>bb
def isN:jh->Bool
 | .callN _ _=>cp
 | _=>dx
def zX(T:iL)(cl:z')(st:Bool):List iz->St->Option (List Rc×St)
 | [],s=>aE ([],s)
 | e::r,s=>match guardOf s.env.get e.guard with
  | none=>bb
  | some dx=>match zX T cl st r { s with env:=put s.env e.dst (.val undef) }with
   | some (rs,s')=>aE (⟨[],[]⟩::rs,s')
   | none=>bb
  | some cp=>match ie s.env.get s.H s.H.l e.op with
   | some (d,δ)=>match zX T cl st r { s with env:=put s.env e.dst d,H:=δ.app s.H (Al.last s.H) }with
    | some (rs,s')=>aE (⟨ik s.env.get s.H e.op,kC s.H.l δ⟩::rs,s')
    | none=>bb
   | none=>match lB s.env.get e.op with
    | none=>bb
    | some (f,args)=>match T.fn f with
     | none=>bb
     | some fn=>if fn.full||(st&&fn.fz && !gN args && !isN e.op)then bb else match cl f (args.map (gA (λ_=>bb) s.H 40)) []with
      | some [(d,[])]=>if (if gN args then closed d else flat d)then(match zX T cl st r { s with env:=put s.env e.dst d }with
       | some (rs,s')=>aE (⟨ik s.env.get s.H e.op,[]⟩::rs,s')
       | none=>bb)else(match e.op with
       | .callN _ _=>match (args.map (iO s.H 40)).flatten with
        | v::l=>if (l.all λu=>decide (u=v))&&(rowsOf s.H v).isSome&&gN (args.map (gA (λ_=>bb) s.H 40))&&closed d then(match zX T cl st r { s with env:=put s.env e.dst d,H:=s.H.set v .dead }with
         | some (rs,s')=>aE (⟨ik s.env.get s.H e.op,[(v,bb)]⟩::rs,s')
         | none=>bb)else bb
        | []=>bb
       | _=>bb)
      | some [(d,[ob])]=>match e.op with
       | .callN _ _=>if (if gN args then od d&&pq ob else p5 d&&rl ob)then(match zX T cl st r { s with env:=put s.env e.dst (lz s.H.l d),H:=s.H ++ [ob] }with
        | some (rs,s')=>aE (⟨ik s.env.get s.H e.op,[(s.H.l,bb)]⟩::rs,s')
        | none=>bb)else bb
       | _=>bb
      | _=>bb
def tB(T:iL)(cl:z')(d:Nat->List Nat->IR->St->Option (List Out))(rd:D3):IR->St->Option (List Out)
 | .skip,s=>aE [.norm s]
 | .ops l,s=>match yH T cl rd l s with
  | some l=>aE (l.map .norm)
  | none=>bb
 | .mO kf l,s=>match zX T cl cp l s with
  | some (rs,e)=>if xL kf rs then aE [.norm e]else bb
  | none=>if s.marks.isEmpty then(match zX T cl dx l (mQ (ek s.H.l) s)with
   | some (rs,e)=>if xL kf rs then aE [.norm e]else bb
   | none=>bb)else bb
 | .nT ..,_=>bb
 | .seq a b,s=>match tB T cl d rd a s with
  | some l=>ui l λo=>match o with
   | .norm e=>tB T cl d rd b e
   | o=>aE [o]
  | none=>bb
 | .cond c a b,s=>match ev s.env.get c with
  | .val (.bool cp)=>tB T cl d rd a s
  | .val (.bool dx)=>tB T cl d rd b s
  | _=>bb
 | .block id live a,s=>match tB T cl d rd a s with
  | some l=>aE (once Ry (l.map (mz id s.H.l live)))
  | none=>bb
 | .loop live a,s=>d s.H.l live a { s with env:=forget live s.env }
 | .po rf live x,s=>if s.iM then bb else match ev s.env.get x with
  | .fn (.func f) first cap=>match T.fn f with
   | some fn=>if fn.full then
     match cl f (first ++ [.jt (s.H.l+1)]++cap) (s.H ++ [.ka,.iE rf (forget live s.env) .ready])with
     | some l=>ui l λp=>match p.2[s.H.l+1]? with
      | some (.iE rf' _ st)=>if rf'=rf then(match BG { s with H:=p.2.set (s.H.l+1) .dead,marks:=s.H.l::s.marks } st with
       | some o=>aE [o]
       | none=>bb)else bb
      | _=>bb
     | none=>bb
    else bb
   | none=>bb
  | _=>bb
 | .exit id,s=>aE [.exit id s]
 | .ret,s=>aE [.ret s]
 | .bad,_=>bb
 | .fz _ _,_=>bb
 | .xc _ _ _,_=>bb
abbrev xY:=List (FuncId×List D×List (D×gg))
def JH:xY->FuncId->List D->Option (List (D×gg))
 | [],_,_=>bb
 | (g,yX,l)::M,f,args=>match Nat.beq g f with
  | true=>match uY yX args with
   | true=>aE l
   | false=>JH M f args
  | false=>JH M f args
def known(M:xY)(f:FuncId)(args:List D):gg->Option (List (D×gg))
 | []=>JH M f args
 | _=>bb
mutual
def DM(T:iL)(M:xY):Nat->Nat->List Nat->IR->St->Option (List Out)
 | 0,_,_,_,_=>bb
 | k+1,n,live,a,s=>match tB T (run T M k) (DM T M k) (Gc T M k) a s with
  | some l=>ui l λo=>match o with
   | .norm b=>DM T M k n live a (cut n live b)
   | o=>aE [o]
  | none=>bb
def Gc(T:iL)(M:xY):Nat->D3
 | 0,_,_=>bb
 | k+1,c,s=>tB T (run T M k) (DM T M k) (Gc T M k) c s
def run(T:iL)(M:xY):Nat->z'
 | 0,_,_,_=>bb
 | k+1,f,args,H=>match known M f args H with
  | some l=>aE l
  | none=>match T.fn f with
  | none=>bb
  | some fn=>if args.l<=fn.ntmps then(match tB T (run T M k) (DM T M k) (Gc T M k) fn.body { env:=vx args,H:=H }with
   | some l=>match ui l λo=>match finish fn fn.own H.l o with
     | some p=>aE [p]
     | none=>bb with
    | some ps=>aE (once Rz ps)
    | none=>bb
   | none=>bb)else bb
end
def XA{a b:Value}(h:Oe a b=cp):a=b:=by
 unfold Oe at h;split at h
 .grind
 .grind
 .rename_i a b;simp only[decide_eq_true_eq]at h
  have:a=b:=by cases a;cases b;congr 1;exact Array.ext' h
  rw[this]
 .rfl
 .grind
 .cases h
mutual
theorem HR:∀ {a b:D},qg a b=cp->a=b
 | .any,b,h=>by cases b<;>simp[qg]at h ⊢
 | .val a,b,h=>by cases b<;>simp[qg]at h ⊢;exact XA h
 | .agg a,b,h=>by cases b<;>simp[qg]at h ⊢;exact zc h
 | .tup a,b,h=>by cases b<;>simp[qg]at h ⊢;exact zc h
 | .sl n a,b,h=>by cases b<;>simp[qg]at h ⊢;exact⟨h.1,Xv h.2⟩
 | .gp,b,h=>by cases b<;>simp[qg]at h ⊢
 | .mM _,b,h=>by cases b<;>simp[qg]at h
 | .gh a1 a2 a3 a4 a5,b,h=>by cases b<;>simp[qg]at h ⊢;simp[h]
 | .ptr a1 a2 a3,b,h=>by cases b<;>simp[qg]at h ⊢;simp[h]
 | .gH a,b,h=>by cases b<;>simp[qg]at h ⊢;exact zc h
 | .gM a,b,h=>by cases b<;>simp[qg]at h ⊢;exact h
 | .jt a,b,h=>by cases b<;>simp[qg]at h ⊢;exact h
 | .fn f a a',b,h=>by
  cases f<;>cases b<;>first|(simp[qg]at h;done)|skip
  rename_i f g b c;cases g<;>simp[qg]at h ⊢;exact⟨h.1.1,zc h.1.2,zc h.2⟩
theorem zc:∀ {a b:List D},uY a b=cp->a=b
 | [],[],_=>rfl
 | a::l,b::m,h=>by simp only[uY,ai]at h;rw[HR h.1,zc h.2]
 | [],_::_,h=>by simp[uY]at h
 | _::_,[],h=>by simp[uY]at h
theorem Xv:∀ {a b:List (List D)},EL a b=cp->a=b
 | [],[],_=>rfl
 | a::l,b::m,h=>by simp only[EL,ai]at h;rw[zc h.1,Xv h.2]
 | [],_::_,h=>by simp[EL]at h
 | _::_,[],h=>by simp[EL]at h
end
theorem Rv:∀ {a b:Env},Co a b=cp->a=b
 | [],[],_=>rfl
 | (i,a)::l,(j,b)::m,h=>by simp only[Co,ai,decide_eq_true_eq]at h;rw[h.1.1,HR h.1.2,Rv h.2]
 | [],_::_,h=>by simp[Co]at h
 | _::_,[],h=>by simp[Co]at h
theorem Xw:∀ {a b:List (Value×D)},EM a b=cp->a=b
 | [],[],_=>rfl
 | (i,a)::l,(j,b)::m,h=>by simp only[EM,ai]at h;rw[XA h.1.1,HR h.1.2,Xw h.2]
 | [],_::_,h=>by simp[EM]at h
 | _::_,[],h=>by simp[EM]at h
def ae2{a b:Ob}(h:Rx a b=cp):a=b:=by
 unfold Rx at h;split at h
 .simp only[ai,decide_eq_true_eq]at h;rw[h.1.1,h.1.2,zc h.2]
 .simp only[ai,decide_eq_true_eq]at h;rw[h.1,Xw h.2]
 .simp only[ai,decide_eq_true_eq]at h;rw[h.1.1,Rv h.1.2,h.2]
 .rename_i a p b q;simp only[ai,decide_eq_true_eq]at h
  have:a=b:=by cases a;cases b;congr 1;exact Array.ext' h.1
  rw[this,h.2]
 .simp only[ai,decide_eq_true_eq]at h;rw[HR h.1.1,h.1.2,h.2]
 .rfl
 .rfl
 .rfl
 .cases h
theorem Rw:∀ {a b:gg},Cp a b=cp->a=b
 | [],[],_=>rfl
 | a::l,b::m,h=>by simp only[Cp,ai]at h;rw[ae2 h.1,Rw h.2]
 | [],_::_,h=>by simp[Cp]at h
 | _::_,[],h=>by simp[Cp]at h
def RA{a b:St}(h:HS a b=cp):a=b:=by obtain⟨e,H,m,r⟩:=a;obtain⟨j,H',i,g⟩:=b;simp only[HS,ai,decide_eq_true_eq,beq_iff_eq]at h;obtain⟨⟨⟨h1,f⟩,d⟩,c⟩:=h;rw[Rv h1,Rw f,d,c]
def ae3{a b:Out}(h:Ry a b=cp):a=b:=by
 unfold Ry at h;split at h
 .rw[RA h]
 .simp only[ai,decide_eq_true_eq]at h;rw[h.1,RA h.2]
 .rw[RA h]
 .cases h
def ae4{a b:D×gg}(h:Rz a b=cp):a=b:=by simp only[Rz,ai]at h;exact cL (HR h.1) (Rw h.2)
theorem P1{α:Type}{d:α->α->Bool}(h:∀a b,d a b=cp->a=b):∀ {l:List α} {a:α},a∈l->a∈once d l
 | [a],b,hb=>hb
 | a::b::l,c,hc=>by
  rw[once]
  .split
   .rename_i e;rcases ay.1 hc with rfl|hc
    .grind
    .exact P1 h hc
   .rcases ay.1 hc with rfl|hc
    .grind
    .exact bh _ (P1 h hc)
  .grind
theorem yW{α g:Type}{f:α->Option (List g)}:∀ {l:List α} {r:List g},ui l f=aE r->∀a∈l,∃y,f a=aE y/\∀b∈y,b∈r
 | [],r,_,a,ha=>by simp at ha
 | [a],r,h,b,hb=>by simp only[dr]at hb;subst hb;exact⟨r,h,λ_ h=>h⟩
 | a::b::l,r,h,c,hc=>by
  rw[ui]at h
  .split at h
   .rename_i x y m j;cases h;rcases ay.1 hc with rfl|hc
    .grind
    .obtain⟨z,i,e⟩:=yW j c hc;exact⟨z,i,λd k=>bP _ (e d k)⟩
   .cases h
  .grind
section
variable{T:iL}{cl:z'}{rd:D3}
def xX(l:List Out):qy->Prop:=λr=>∃o∈l,r = .out o
def G2(l:List St):qy->Prop:=λr=>∃s∈l,r = .out (.norm s)
def lX(l:List (D×gg)):qy->Prop:=λr=>∃p∈l,r = .val p.1 p.2
def tD(T:iL)(cl:z'):Prop:=∀f args H l,cl f args H=aE l->Ev T (.call f args H) (lX l)
def Nv(T:iL)(rd:D3):Prop:=∀c s l,rd c s=aE l->Ev T (.code c s) (xX l)
theorem xX.out{l:List Out}{o:Out}(h:xX l (.out o)):o∈l:=by obtain⟨o',h1,a⟩:=h;cases a;exact h1
theorem lX.val{l:List (D×gg)}{d:D}{H:gg}(h:lX l (.val d H)):(d,H)∈l:=by obtain⟨o',h1,a⟩:=h;cases a;exact h1
theorem G2.sub{a b:List St}(h:∀s∈a,s∈b){r:qy}(c:G2 a r):G2 b r:=by obtain⟨s,h1,d⟩:=c;exact⟨s,h s h1,d⟩
theorem xX.sub{a b:List Out}(h:∀s∈a,s∈b){r:qy}(c:xX a r):xX b r:=by obtain⟨s,h1,d⟩:=c;exact⟨s,h s h1,d⟩
theorem agS{S:List Nat}{s:St}{g:Option (Nat×Bool)}{b:Bool}(h:guardOf s.env.get g=aE b):guardOf (mQ S s).env.get g=aE b:=by
 cases g with
 | none=>exact h
 | some p=>
  simp only[guardOf,mQ]at h ⊢
  have e:Env.get (s.env.map λp=>(p.1,gA (jc (nz s.H S)) s.H 40 p.2)) p.1=gA (jc (nz s.H S)) s.H 40 (s.env.get p.1):=by
   generalize s.env=env
   induction env with
   | nil=>rfl
   | cons q r c=>
    obtain⟨j,d⟩:=q;simp only[List.map_cons,Env.yg];split
    .rfl
    .exact c
  rw[e];split at h
  .rename_i x a;rw[a];have:gA (jc (nz s.H S)) s.H 40 (.val (.bool x)) = .val (.bool x):=by unfold gA;rfl
   rw[this];exact h
  .rename_i vs a;rw[a];have:gA (jc (nz s.H S)) s.H 40 (.val (.tuple vs)) = .val (.tuple vs):=by unfold gA;rfl
   rw[this];exact h
  .cases h
theorem acu(q:tD T cl){e:iz}{r:List iz}{f:FuncId}{fn:jK}{s:St}{l:List St}{R:qy->Prop}(hg:guardOf s.env.get e.guard=aE cp)(o:T.fn f=aE fn)(n:fn.full=dx)
  (h:Qh cl e f s=aE l) (k:∀b∈l,Ev T (.ops r b) R):Ev T (.ops (e::r) s) R:=by
 unfold Qh at h;split at h
 .cases h
 .rename_i f' args p;split at h
  .rename_i t;subst t;split at h
   .rename_i u j;have g:=yW h;refine .Hw hg p o n (q _ _ _ _ j) (λd Hn c=>?_) λd Hn b c m=>?_
    .obtain⟨y,a,_⟩:=g _ c.val;dsimp only at a;split at a
     .grind
     .cases a
    .obtain⟨y,a,i⟩:=g _ c.val;dsimp only at a;rw[m]at a;cases a;exact k b (i b gf)
   .cases h
  .cases h
theorem apf(c:tD T cl){e:iz}{r:List iz}{s:St}{l:List St}{R:qy->Prop}(hg:guardOf s.env.get e.guard=aE cp)
  (h:UT T cl e s=aE l) (k:∀i∈l,Ev T (.ops r i) R):Ev T (.ops (e::r) s) R:=by
 unfold UT at h;split at h
 .cases h
 .rename_i f args n;split at h
  .cases h
  .rename_i fn b;split at h
   .rename_i a;split at h
    .rename_i o j;cases h;refine .Hv hg n b a (c _ _ _ _ j) λd H' m=>k _ ?_;exact au.2 ⟨(d,H'),m.val,rfl⟩
    .cases h
   .rename_i a;split at h
    .rename_i g;simp only[ai,eE]at g;refine .mQ (refsOf s args) ?_ (acu c (agS hg) b a h k);rw[g.1.2];rfl
    .exact acu c hg b a h k
theorem aph(g:Nv T rd){e:iz}{r:List iz}{s:St}{v:Nat}{args:List D}{l:List St}{R:qy->Prop}(hg:guardOf s.env.get e.guard=aE cp)(z:yieldOf s.env.get e.op=aE (v,args))
  (h:UX T rd e s v args=aE l) (k:∀n∈l,Ev T (.ops r n) R):Ev T (.ops (e::r) s) R:=by
 unfold UX at h;split at h
 .rename_i rf env0 w;split at h
  .rename_i Rd A;split at h
   .rename_i hl;split at h
    .rename_i F C;split at h
     .rename_i t f;have m:=yW f;have j:=yW h;refine .NI hg z w A hl (g _ _ _ C) (Rb:=xX t) (λo b=>?_) (λs1 i u c=>?_) (λo b=>?_) λo E b q=>?_
      .obtain⟨y,a,_⟩:=m o b.out;split at a
       .rename_i s1;split at a
        .rename_i p i c;split at a
         .rename_i B;subst B;exact⟨rfl,i,c⟩
         .cases a
        .cases a
       .cases a
      .obtain⟨y,a,d⟩:=m _ u.out;simp only[c,if_true]at a;exact(g _ _ _ a).mono λr x=>x.sub d
      .obtain⟨y,a,_⟩:=j o b.out;split at a
       .grind
       .cases a
      .obtain⟨y,a,d⟩:=j o b.out;simp only[q,if_true]at a;cases a;exact k _ (d _ gf)
     .cases h
    .cases h
   .cases h
  .cases h
 .cases h
theorem apg{e:iz}{r:List iz}{s:St}{x:X}{l:List St}{R:qy->Prop}(hg:guardOf s.env.get e.guard=aE cp)(b:e.op = .nextM x)
  (h:UW e s x=aE l) (k:∀a∈l,Ev T (.ops r a) R):Ev T (.ops (e::r) s) R:=by
 unfold UW at h;split at h
 .rename_i v c;split at h
  .rename_i m since seen f;split at h
   .rename_i kk es g;split at h
    .rename_i hs;dsimp only at h;refine .next hg b c f g hs (λh0=>?_) λi kv d hi n=>?_
     .rw[if_pos]at h
      .grind
      .simp_all
     .have j:=(ae.1 hi).1;rw[if_neg]at h
      .grind
      .rw[eE,List.filter_eq_nil_iff];intro h0;have:=h0 i (by simpa using j);simp at this;exact n this
    .cases h
   .cases h
  .cases h
 .cases h
theorem JO(c:tD T cl)(b:Nv T rd):∀(l:List iz) (s:St) (r:List St),yH T cl rd l s=aE r->Ev T (.ops l s) (G2 r)
 | [],s,r,h=>by cases h;exact .nil ⟨s,gf,rfl⟩
 | e::r,s,res,h=>by
  have g:∀ {l:List St},(ui l λa=>yH T cl rd r a)=aE res->∀a∈l,Ev T (.ops r a) (G2 res):=λhl a m=>by obtain⟨y,n,j⟩:=yW hl a m;exact(JO c b r a y n).mono λ_ o=>o.sub j
  simp only[yH]at h;split at h
  .cases h
  .rename_i hg;exact .off hg (JO c b r _ _ h)
  .rename_i hg;split at h
   .rename_i d δ f;exact .op hg f (JO c b r _ _ h)
   .split at h
    .rename_i d δ f;exact .DT hg f (JO c b r _ _ h)
    .split at h
     .rename_i x k;split at h
      .rename_i l hl;exact apg hg k hl (g h)
      .cases h
     .split at h
      .rename_i v args i;split at h
       .rename_i l hl;exact aph b hg i hl (g h)
       .cases h
      .split at h
       .cases h
       .rename_i i;split at h
        .rename_i l hl;exact apf c hg hl (g h)
        .cases h
theorem DN(a:tD T cl)(st:Bool):∀(l:List iz) (s:St) (rs:List Rc) (j:St),zX T cl st l s=aE (rs,j)->Ev T (.trace l s) (λr=>r = .tr rs j)
 | [],s,rs,j,h=>by cases h;exact .J7 rfl
 | e::r,s,rs,j,h=>by
  simp only[zX]at h;split at h
  .cases h
  .rename_i hg;split at h
   .rename_i h1;cases h;exact .J8 hg (DN a st r _ _ _ h1) λ_ _ h=>by cases h;rfl
   .cases h
  .rename_i hg;split at h
   .rename_i d δ x;split at h
    .rename_i h1;cases h;exact .J9 hg x (DN a st r _ _ _ h1) λ_ _ h=>by cases h;rfl
    .cases h
   .split at h
    .cases h
    .rename_i f args q;split at h
     .cases h
     .rename_i fn p;split at h
      .cases h
      .rename_i A;have o:fn.full=false:=jZ;split at h
       .rename_i d k
        by_cases b:(if gN args=cp then closed d else flat d)=cp
        .rw[if_pos b]at h;split at h
         .rename_i h1;cases h;refine .J4 hg q p o (a _ _ _ _ k) (λd' Hn i=>?_) b (DN a st r _ _ _ h1) λ_ _ h=>by cases h;rfl
          have:=i.val;simp only[dr,dM]at this;exact this
         .cases h
        .rw[if_neg b]at h;split at h
         .rename_i g m c;split at h
          .rename_i v l w;split at h
           .rename_i t;simp only[ai,cj,decide_eq_true_eq]at t;obtain⟨⟨⟨C,c2⟩,z⟩,y⟩:=t;split at h
            .rename_i h1;cases h;have n:aE (g,m.map (ev s.env.get))=aE (f,args):=by rw[<-q,c];rfl
             cases n;refine .J6 (v:=v) hg c rfl p o (λu B=>?_) (by rw[w];simp) c2 z (a _ _ _ _ k) (λd' Hn i=>?_) y (DN a st r _ _ _ h1) λ_ _ h=>by cases h;rfl
             .grind
             .have:=i.val;simp only[dr,dM]at this;exact this
            .cases h
           .cases h
          .cases h
         .cases h
       .rename_i d ob k;split at h
        .rename_i g m c
         by_cases b:(if gN args=cp then od d&&pq ob else p5 d&&rl ob)=cp
         .rw[if_pos b]at h;split at h
          .rename_i h1;cases h;have n:aE (g,m.map (ev s.env.get))=aE (f,args):=by rw[<-q,c];rfl
           cases n;refine .J5 hg c rfl p o (a _ _ _ _ k) (λd' Hn i=>?_) b (DN a st r _ _ _ h1) λ_ _ h=>by cases h;rfl
           have:=i.val;simp only[dr,dM]at this;exact this
          .cases h
         .grind
        .cases h
       .cases h
theorem UU(q:tD T cl)(E:Nv T rd){C:Nat->List Nat->IR->St->Option (List Out)}(A:∀n live a s l,C n live a s=aE l->Ev T (.loop n live a s) (xX l)) :
  ∀(c:IR) (s:St) (l:List Out),tB T cl C rd c s=aE l->Ev T (.code c s) (xX l):=by
 intro c
 induction c with
 | skip=>intro s l h;cases h;exact .skip ⟨_,gf,rfl⟩
 | ops ops=>
  intro s l h;simp only[tB]at h;split at h
  .rename_i u h1;cases h;refine .HJ ((JO q E _ _ _ h1).mono λr w=>?_);obtain⟨k,v,rfl⟩:=w;exact⟨_,au.2 ⟨k,v,rfl⟩,rfl⟩
  .cases h
 | nT I ops es=>intro s l h;simp[tB]at h
 | mO I ops=>
  intro s l h;simp only[tB]at h;split at h
  .rename_i rs k h1;split at h
   .rename_i z;cases h;exact .mO (DN q _ _ _ _ _ h1) λ_ _ h=>by cases h;exact⟨z,_,gf,rfl⟩
   .cases h
  .split at h
   .rename_i i;split at h
    .rename_i rs k h1;split at h
     .rename_i z;cases h;refine .H9 (ek s.H.l) ?_ (.mO (DN q _ _ _ _ _ h1) λ_ _ h=>by cases h;exact⟨z,_,gf,rfl⟩);rw[eE]at i;rw[i];rfl
     .cases h
    .cases h
   .cases h
 | seq a b j t=>
  intro s l h;simp only[tB]at h;split at h
  .rename_i u h1;have i:=yW h;refine .seq (j _ _ h1) (λk v=>?_) λo p M=>?_
   .obtain⟨y,g,m⟩:=i _ v.out;exact(t _ _ g).mono λ_ w=>w.sub m
   .obtain⟨y,g,m⟩:=i _ p.out
    cases o with
    | norm=>cases M
    | exit id k=>cases g;exact⟨_,m _ gf,rfl⟩
    | ret k=>cases g;exact⟨_,m _ gf,rfl⟩
  .cases h
 | cond c a b j t=>
  intro s o h;simp only[tB]at h;split at h
  .rename_i B;exact .cond (x:=cp) B (j _ _ h)
  .rename_i B;exact .cond (x:=dx) B (t _ _ h)
  .cases h
 | block id live a j=>
  intro s l h;simp only[tB]at h;split at h
  .rename_i u h1;cases h;refine .block (j _ _ h1) λo p=>⟨_,P1 (λ_ _=>ae3) (au.2 ⟨o,p.out,rfl⟩),rfl⟩
  .cases h
 | loop live a j=>intro s o h;exact .loop (A _ _ _ _ _ h)
 | po rf live x=>
  intro s l h;simp only[tB]at h;split at h
  .cases h
  .rename_i G;split at h
   .rename_i f first cap hx
    split at h
    .rename_i fn K;split at h
     .rename_i D;split at h
      .rename_i u J;have i:=yW h;refine .po (by simpa using G) hx K D (q _ _ _ _ J) λd H' L=>?_;obtain⟨y,g,m⟩:=i _ L.val;dsimp only at g;split at g
       .rename_i F env st H;split at g
        .rename_i e;subst e;split at g
         .rename_i o p;cases g;exact⟨env,st,o,H,p,_,m _ gf,rfl⟩
         .cases g
        .cases g
       .cases g
      .cases h
     .cases h
    .cases h
   .cases h
 | exit id=>intro s o h;cases h;exact .exit ⟨_,gf,rfl⟩
 | ret=>intro s o h;cases h;exact .ret ⟨_,gf,rfl⟩
 | bad=>intro s o h;cases h
 | fz _ _=>intro s o h;cases h
 | xc _ _ _=>intro s o h;cases h
end
section
variable{T:iL}
def mg(T:iL)(M:xY):Prop:=∀p∈M,Ev T (.call p.1 p.2.1 []) (lX p.2.2)
theorem mg.nil(T:iL):mg T []:=λp a=>by cases a
theorem mg.cons{T:iL}{f:FuncId}{args:List D}{l:List (D×gg)}{M:xY}(h:Ev T (.call f args []) (lX l))(t:mg T M):mg T ((f,args,l)::M):=λp a=>by
 rcases ay.1 a with rfl|a
 .exact h
 .exact t p a
theorem aoG{M:xY}(hM:mg T M){f:FuncId}{args:List D}{l:List (D×gg)}(h:JH M f args=aE l):Ev T (.call f args []) (lX l):=by
 induction M with
 | nil=>cases h
 | cons p M i=>
  obtain⟨g,a,e⟩:=p;have d:mg T M:=λq b=>hM q (by simp[b]);simp only[JH]at h;split at h
  .rename_i hg;split at h
   .rename_i c;cases h;have:=hM (g,a,l) gf;rw[zc c,cF hg]at this;exact this
   .grind
  .grind
theorem acx{M:xY}(hM:mg T M):∀k:Nat,(∀n live a s l,DM T M k n live a s=aE l->Ev T (.loop n live a s) (xX l))/\Nv T (Gc T M k)/\tD T (run T M k)
 | 0=>⟨λ_ _ _ _ _ h=>by simp[DM]at h,λ_ _ _ h=>by simp[Gc]at h,λ_ _ _ _ h=>by simp[run]at h⟩
 | k+1=>by
  obtain⟨e,j,i⟩:=acx hM k;refine⟨λn live a s l h=>?_,λc s l h=>?_,λf args H l h=>?_⟩
  .simp only[DM]at h;split at h
   .rename_i r h1;have g:=yW h;refine .Bt (UU i j e _ _ _ h1) (λq u=>?_) λo m A=>?_
    .obtain⟨y,b,d⟩:=g _ u.out;exact(e _ _ _ _ _ b).mono λ_ v=>v.sub d
    .obtain⟨y,b,d⟩:=g _ m.out
     cases o with
     | norm=>cases A
     | exit id q=>cases b;exact⟨_,d _ gf,rfl⟩
     | ret q=>cases b;exact⟨_,d _ gf,rfl⟩
   .cases h
  .simp only[Gc]at h;exact UU i j e _ _ _ h
  .simp only[run]at h;split at h
   .rename_i r t;cases h
    cases H with
    | nil=>exact aoG hM t
    | cons=>cases t
   split at h
   .cases h
   .rename_i fn x;split at h
    .rename_i hl;split at h
     .rename_i r h1;split at h
      .rename_i ps z;cases h;have g:=yW z;refine .call fn.own x hl (UU i j e _ _ _ h1) λo m=>?_;obtain⟨y,b,d⟩:=g _ m.out;split at b
       .rename_i p w;cases b;exact⟨p.1,p.2,w,p,P1 (λ_ _=>ae4) (d _ gf),rfl⟩
       .cases b
      .cases h
     .cases h
    .cases h
theorem sn{M:xY}(hM:mg T M){k:Nat}{f:FuncId}{args:List D}{H:gg}{l:List (D×gg)}(h:run T M k f args H=aE l):Ev T (.call f args H) (lX l):=(acx hM k).2.2 f args H l h
end
@[reducible] def o(k:Nat)(op:jh):iz:={ dst:=aE k,op:=op,guard:=bb }
@[reducible] def u(op:jh):iz:={ dst:=bb,op:=op,guard:=bb }
@[reducible] def og(j:Nat)(b:Bool)(k:Nat)(op:jh):iz:={ dst:=aE k,op:=op,guard:=aE (j,b) }
@[reducible] def ug(j:Nat)(b:Bool)(op:jh):iz:={ dst:=bb,op:=op,guard:=aE (j,b) }
def Zw(n:Nat):List D:=en n (.val (.int .u32 0))
def Zb(n:Nat):List D:=en n (.val (.int .u8 0))
def EW:List D:=([1779033703,3144134277,1013904242,2773480762,1359893119,2600822924,528734635,1541459225]:List Int).map λn=>.val (.int .u32 n)
def E0:List D:=([1116352408,1899447441,3049323471,3921009573,961987163,1508970993,2453635748,2870763221,3624381080,310598401,607225278,1426881987,1925078388,2162078206,2614888103,3248222580,3835390401,4022224774,264347078,604807628,770255983,1249150122,1555081692,1996064986,2554220882,2821834349,2952996808,3210313671,3336571891,3584528711,113926993,338241895,666307205,773529912,1294757372,1396182291,1695183700,1986661051,2177026350,2456956037,2730485921,2820302411,3259730800,3345764771,3516065817,3600352804,4094571909,275423344,430227734,506948616,659060556,883997877,958139571,1322822218,1537002063,1747873779,1955562222,2024104815,2227730452,2361852424,2428436474,2756734187,3204031479,3329325298]:List Int).map λn=>.val (.int .u32 n)
def nth:List (Option jK)->Nat->Option jK
 | [],_=>bb
 | a::_,0=>a
 | _::l,n+1=>nth l n
def assoc:List (Nat×sC)->Nat->Option sC
 | [],_=>bb
 | (k,R)::l,n=>if k=n then aE R else assoc l n
def elem(f:Nat):List Nat->Bool
 | []=>dx
 | a::l=>if a=f then cp else elem f l
def Ho(fn:Func):Code:=fn.body.getD .skip
def DK(P:Program)(rf:Nat):Array Tmp:=match BO P rf with
 | some (_,ps,_,_)=>ps
 | none=>#[]
def DH(P:Program)(rf:Nat):Code:=match BO P rf with
 | some (_,_,a,_)=>a
 | none=>.skip
def DI(P:Program)(rf:Nat):Code:=match BO P rf with
 | some (_,_,_,b)=>b
 | none=>.skip
section
variable{P:Program}{G:GT}
theorem agM{f:FuncId}{fn:jK}{func:Func}{code:Code}{hs a:List (List Nat)}(h1:P.funcs[f]? = aE func)(h:func.body=aE code)(g:uu P f=cp)(e:(oZ code).l<=64)
  (d:cC P G fn.ntmps (64*f) hs code=aE (fn.body,a)) (c:func.ntmps=fn.ntmps) (b:Cc P func.results.toList=aE fn.results):G0 P G f fn:=⟨⟨func,code,hs,a,h1,h,g,e,d,c,b⟩⟩
theorem DJ{rf:Nat}{R:sC}{N:Nat}{ps:Array Tmp}{ac bc:Code}(d c:List (List Nat))(h1:G.rt rf=aE (N,ps,ac,bc))(h:ps.toList=R.params)(g:(R.params.all λp=>decide (p<N))=cp)
  (b:oZ ac = []/\oZ bc = []) (f:cC P G N 0 d ac=aE (R.a,[])) (e:cC P G N 0 c bc=aE (R.b,[])):wV P G rf R:=
 ⟨⟨N,ps,ac,bc,h1,h,g,Q4 (λi x a=>by rw[b.1]at a;cases a) f,Q4 (λi x a=>by rw[b.2]at a;cases a) e⟩⟩
inductive yQ(P:Program)(G:GT):Nat->List (Option jK)->Prop
 | nil (k:Nat):yQ P G k []
 | has {k:Nat} {fn:jK} {l:List (Option jK)} (h:G0 P G k fn) (t:yQ P G (k+1) l):yQ P G k (aE fn::l)
 | no {k:Nat} {l:List (Option jK)} (t:yQ P G (k+1) l):yQ P G k (none::l)
inductive B6(P:Program)(G:GT):List (Nat×sC)->Prop
 | nil:B6 P G []
 | cons {k:Nat} {R:sC} {l:List (Nat×sC)} (h:wV P G k R) (t:B6 P G l):B6 P G ((k,R)::l)
theorem yQ.get:∀ {l:List (Option jK)} {k:Nat},yQ P G k l->∀(i:Nat) (fn:jK),nth l i=aE fn->G0 P G (k+i) fn:=by
 intro l k h
 induction h with
 | nil=>intro i fn hi;cases hi
 | has h t a=>
  intro i fn hi
  cases i with
  | zero=>cases hi;exact h
  | succ i=>
   have:=a i fn hi;rwa [bg,dB 1 i]at this
 | no t a=>
  intro i fn hi
  cases i with
  | zero=>cases hi
  | succ i=>
   have:=a i fn hi;rwa [bg,dB 1 i]at this
theorem B6.get{l:List (Nat×sC)}(h:B6 P G l):∀(i:Nat) (R:sC),assoc l i=aE R->wV P G i R:=by
 induction h with
 | nil=>intro i R hi;cases hi
 | @cons k b l h t a=>
  intro i R hi;simp only[assoc]at hi;split at hi
  .rename_i e;subst e;cases hi;exact h
  .exact a i R hi
theorem ap7{l:List (Option jK)}{r:List (Nat×sC)}{a:FuncId->Option Nat}(d:G.rt=BO P)(h:yQ P G 0 l)(j:B6 P G r){b:FuncId->Bool}(i:∀f sz,a f=aE sz->yU P f sz)(g:∀f,b f=cp->B7 P f){c:FuncId->Bool}(e:∀f,c f=cp->BX P f):QU P G { fn:=nth l,round:=assoc r,sort:=a,uM:=b,uq:=c } where
 sort:=i
 uM:=g
 uq:=e
 rt:=d
 fn f fn hf:=by have:=h.get f fn hf;rwa [aV]at this
 round:=j.get
