/- 6 -/
import Derived.Test.YtnaefnajkaohgaaGreatDoorH05
import Derived.KernelRfl
set_option linter.all false
namespace Go.AL
open Go
def CC(P:Program)(G:GT)(g:FuncId)(args:List D)(d:D)(Hn:U):Prop:=qj P g=true∧vi P G g args [] d Hn
def outs(R:nY→Prop):Out→Prop:=fun o=>R (.out o)
def Ay(R:nY→Prop):D→U→Prop:=fun d H=>R (.val d H)
def Good(P:Program)(G:GT):wJ→(nY→Prop)→Prop
 | .ops l s,R=>∀ (N:Nat) (A:Array Oper) (ops:List Oper),n5 P G N A ops=some l →
   ∀ (ro:Option Nat) (n:Nat) (Q:Exit→Act→World→Prop) (c:Ctx) (w:World) (a:Act),(s.fW=false→ro=none)→jX G N c w s a→ue G N s.H.length s.fW c s.H w (outs R) Q→wpListIn (FW ro) n P A Q ops a w
 | .code ir s,R=>∀ (N:Nat) (code:Code),mF P G N ir code →
   ∀ (ro:Option Nat) (n:Nat) (Q:Exit→Act→World→Prop) (c:Ctx) (w:World) (a:Act),(s.fW=false→ro=none)→jX G N c w s a→ue G N s.H.length s.fW c s.H w (outs R) Q→code.wpIn (FW ro) n P Q a w
 | .loop n0 _ ir s,R=>n0≤s.H.length→∀ (N:Nat) (code:Code),mF P G N ir code →
   ∀ (ro:Option Nat) (n:Nat) (Q:Exit→Act→World→Prop) (c:Ctx) (w:World) (a:Act),(s.fW=false→ro=none)→jX G N c w s a→ue G N n0 s.fW c s.H w (outs R) Q→Gr (FW ro) n P code Q a w
 | .call f args H,R=>sU P G f args H (Ay R)
 | .trace l s,R=>∃ rs s',R (.tr rs s')∧s.H.length≤s'.H.length∧s'.marks=s.marks∧s'.fW=s.fW∧∀ (K k0:Nat),s'.H.length≤K→∃ items:List mb,items.map (·.e)=l∧items.map (·.rc)=rs∧items.map (·.k)=List.range' k0 l.length ∧
   Tx (CC P G) s.env.get (s.H++room (K-s.H.length)) items s'.env.get (s'.H++room (K-s'.H.length))
section
variable{P:Program}{G:GT}{T:gy}
def ue.mono{N n m:Nat}{fW:Bool}{c c1:Ctx}{H H1:U}{w w1:World}{R:Out→Prop}{Q:Exit→Act→World→Prop}(h:ue G N n fW c H w R Q)(hs:Step n c H w c1 H1 w1)(hm:n≤m):ue G N m fW c1 H1 w1 R Q:=
 fun o c' w' a' hR hr hl eM eX=>h o c' w' a' hR hr (Nat.le_trans hm hl) eM (hs.trans eX hm)
def Bv{N:Nat}{A:Array Oper}{o:Oper}{r:List Oper}{l:List eT}(h:n5 P G N A (o::r)=some l) :
  ∃ e l',l=e::l'∧tg P G N A o=some e∧n5 P G N A r=some l':=by
 simp only[n5]at h
 split at h
 ·rename_i e l' he hl
  cases h
  exact⟨e,l',rfl,he,hl⟩
 ·cases h
def UP{N:Nat}{A:Array Oper}{ops:List Oper}(h:n5 P G N A ops=some []):ops = []:=by
 cases ops with
 | nil=>rfl
 | cons o r=>
  obtain⟨e,l',h1,_⟩:=Bv h
  cases h1
theorem OG{N:Nat}{A:Array Oper}:∀ {l es:List eT} {ops:List Oper},n5 P G N A ops=some (l++es)→∃ o1 o2,ops=o1++o2∧n5 P G N A o1=some l∧n5 P G N A o2=some es
 | [],es,ops,h=>⟨[],ops,rfl,rfl,h⟩
 | e::l,es,ops,h=>by
  cases ops with
  | nil=>cases h
  | cons o r=>
   obtain⟨e',l',h1,h2,h3⟩:=Bv h
   cases h1
   obtain⟨o1,o2,rfl,h4,h5⟩:=OG h3
   exact⟨o::o1,o2,rfl,by simp only[n5,h2,h4],h5⟩
def OH{N:Nat}{A:Array Oper}:∀ {ops:List Oper} {l:List eT},n5 P G N A ops=some l→ops.length=l.length∧∀ (i:Nat) (o:Oper) (e:eT),ops[i]? = some o→l[i]? = some e→tg P G N A o=some e:=by
 intro ops
 induction ops with
 | nil=>intro l h;cases h;exact⟨rfl,fun i o e h=>by simp at h⟩
 | cons o r LQ=>
  intro l h
  obtain⟨e,l',rfl,h1,h2⟩:=Bv h
  obtain⟨q1,q2⟩:=LQ h2
  refine⟨by simp[q1],fun i o' e' ho he=>?_⟩
  cases i with
  | zero=>simp at ho he;subst ho;subst he;exact h1
  | succ i=>exact q2 i o' e' (by simpa using ho) (by simpa using he)
def xc{N:Nat}{A:Array Oper}{ops:List Oper}{e:eT}{l:List eT}(h:n5 P G N A ops=some (e::l)) :
  ∃ o r,ops=o::r∧tg P G N A o=some e∧n5 P G N A r=some l:=by
 cases ops with
 | nil=>cases h
 | cons o r=>
  obtain⟨e',l',h1,h2,h3⟩:=Bv h
  cases h1
  exact⟨o,r,rfl,h2,h3⟩
def Tt{N:Nat}{c:Ctx}{w:World}{s:St}{a:Act}{ro:Option Nat}{n:Nat}{o:Oper}{io:gP}{f:FuncId}{args:List D}{next:Act→World→Prop}{Q:Exit→Act→World→Prop}(hs:jX G N c w s a)(hc:mr P G o=some io)
  (hd:qH N o.dst=true) (iT:jA s.env.get io=some (f,args)) (kS:qj P f=true) {R:D→U→Prop}
  (iQ:∀ vs:List Value,iy c w vs args→Calls P f vs.toArray w fun e w'=>∃ v c' d H',e = .returned v∧R d H'∧e9 G c' H' w'∧eJ c' w' v d∧Step s.H.length c s.H w c' H' w')
  (k:∀ d H' c' w' a',R d H'→jX G N c' w' { s with env:=put s.env o.dst d,H:=H' } a'→Step s.H.length c s.H w c' H' w'→next a' w'):o.wpIn (FW ro) n P a w next Q:=by
 obtain⟨vs,ig,ie⟩:=I' hs.eM hs.env hc iT kS
 refine⟨fun _ _=>trivial,?_⟩
 rw[Oper.semAt_plain (FW ro) a.eval o (yd hc),ig]
 refine⟨fun h=>by simp[Fence.wide]at h,Bl.2 ((iQ vs ie).mono ?_)⟩
 rintro e w' ⟨v,c',d,H',rfl,hR,eM,hr,eX⟩
 exact k d H' c' w' _ hR (hs.next eM eX hd hr) eX
def TH{s s1:St}{dst:Option Nat}{args:List D}{r:D}{Hn:U}(h:after s dst args r Hn=some s1) :
  (if fu args then lM r&&Hn.all mO else nU r&&Hn.all oi)=true∧s1 = { s with env:=put s.env dst (jx s.H.length r),H:=s.H++Hn }:=by
 unfold after at h
 generalize (if fu args=true then lM r&&Hn.all mO else nU r&&Hn.all oi)=b at h
 cases b
 ·cases h
 ·cases h;exact⟨rfl,rfl⟩
def Se{P:Program}{G:GT}{o:Oper}{io:gP}(hc:mr P G o=some io):Jm io=false:=by
 unfold mr at hc
 split at hc
 all_goals try simp only[ax,ae,aG]at hc
 all_goals (repeat' first|(obtain⟨_,_,hc⟩:=hc)|split at hc|simp only[ae]at hc)
 all_goals first|rfl|(cases hc;done)|(cases hc;rfl)|(split<;>rfl)
def afj{P:Program}{G:GT}{o:Oper}{x:X}(hc:mr P G o=some (.nextM x)):False:=by
 have:=Se hc
 cases this
def afk{P:Program}{G:GT}{o:Oper}{io:gP}(hc:mr P G o=some io){f:fQ}{H:U}{n:Nat}{r:D×Dl}(h:l6 f H n io=some r):False:=by
 have:=Se hc
 cases io<;>first|(cases h;done)|(cases this;done)
def afG{fn:eI}(s:St)(ms:List Nat):AL.results fn { s with marks:=ms }=AL.results fn s:=by
 have h1:∀ x,Ak { s with marks:=ms } x=Ak s x:=fun x=>by cases x<;>rfl
 have h2:∀ l,rU { s with marks:=ms } l=rU s l:=by
  intro l
  induction l with
  | nil=>rfl
  | cons x r ih=>simp only[rU,h1,ih]
 simp only[AL.results,h2]
def Wp(hM:P.follows .mixedOrders=true)(hT:JB P G T){j:wJ}{R:nY→Prop}(h:Ev T j R):Good P G j R:=by
 induction h with
 | @mono j R R' h hi ih=>
  cases j with
  | ops l s=>exact fun N A ops hc ro n Q c w a ia hs hk=>ih N A ops hc ro n Q c w a ia hs fun o c' w' a' hR=>hk o c' w' a' (hi _ hR)
  | code ir s=>exact fun N code hc ro n Q c w a ia hs hk=>ih N code hc ro n Q c w a ia hs fun o c' w' a' hR=>hk o c' w' a' (hi _ hR)
  | loop n0 live ir s=>exact fun hn N code hc ro n Q c w a ia hs hk=>ih hn N code hc ro n Q c w a ia hs fun o c' w' a' hR=>hk o c' w' a' (hi _ hR)
  | call f args H=>exact fun c w vs h1 h2=>(ih c w vs h1 h2).mono fun _ _ ⟨v,c',d,H',he,hR,r⟩=>⟨v,c',d,H',he,hi _ hR,r⟩
  | trace l s=>
   obtain⟨rs,s',h1,h2⟩:=ih
   exact⟨rs,s',hi _ h1,h2⟩
 | @sort f g fn sz v gen t H R α fc l cf hs hg hl fM h0 tq zX tr nt hc hv k sF=>
  obtain⟨func,code,h1,h2,t1,t2,t3,_⟩:=(hT.fn g fn hg).ex
  exact agw (hT.sort f sz hs) t3 fc l hl fM h0 tq cf zX tr nt (fun x hx y hy c w vs h1 h2=>(sF x hx y hy c w vs h1 h2).mono fun _ _ ⟨v,c',d,H',he,hR,r⟩=>⟨v,c',d,H',he,by obtain⟨_,e⟩:=hR;cases e;rfl,r⟩) hv k
 | @Ar f sz x H R hs k=>exact agv (hT.sort f sz hs) (f:=f) (g:=0) k
 | @qB f v gen t H R l hs h0 tq hv k=>exact agy (hT.qB f hs) l h0 tq hv k
 | @nil s R h=>
  intro N A ops hc ro n Q c w a ia hs hk
  rw[UP hc]
  exact hk _ c w a h rfl (Nat.le_refl _) hs (Step.refl _ _ _ _)
 | @op e r s d δ R hg h t ih=>
  have hle:s.H.length≤(δ.app s.H (Al.last s.H)).length:=JF δ s.H
  intro N A ops hc ro n Q c w a ia hs hk
  obtain⟨o,r',rfl,ho,kc⟩:=xc hc
  obtain⟨s1,s2,s3,s4⟩:=vG ho
  have hw:=rY hs.env s4 hg
  simp only[wpListIn,hw,if_true]
  have s1:=OB s1 h
  refine ag2 hs s1 s3 (ma.last s.H) h fun c' w' a' fZ eX=>?_
  rw[← s2]at fZ
  exact ih N A r' kc ro n Q c' w' a' ia fZ (hk.mono eX hle)
 | @yy e r s d δ R hg h t ih=>
  have hle:s.H.length≤(δ.app s.H (Al.last s.H)).length:=JF δ s.H
  intro N A ops hc ro n Q c w a ia hs hk
  obtain⟨o,r',rfl,ho,kc⟩:=xc hc
  obtain⟨s1,s2,s3,s4⟩:=vG ho
  have hw:=rY hs.env s4 hg
  simp only[wpListIn,hw,if_true]
  have s1:=s1.resolve_left fun h2=>afk h2 h
  refine ag4 hs s1 s3 (ma.last s.H) h fun c' w' a' fZ eX=>?_
  rw[← s2]at fZ
  exact ih N A r' kc ro n Q c' w' a' ia fZ (hk.mono eX hle)
 | @off e r s R hg t ih=>
  intro N A ops hc ro n Q c w a ia hs hk
  obtain⟨o,r',rfl,ho,kc⟩:=xc hc
  obtain⟨s1,s2,s3,s4⟩:=vG ho
  have hw:=rY hs.env s4 hg
  simp only[wpListIn,hw,bG,if_false]
  refine⟨fun _ _=>trivial,?_⟩
  have fZ:=hs.next hs.eM (Step.refl _ _ _ _) s3 (v:=undef) (d:=.val undef) (.val _)
  rw[← s2]at fZ
  rw[← s2]
  exact ih N A r' kc ro n Q c w _ ia (by rw[s2]at fZ ⊢;exact fZ) hk
 | @kb l s R S hm t ih=>
  have hlen:(kb S s).H.length=s.H.length:=Ks
  intro N A ops hc ro n Q c w a ia hs hk
  obtain⟨c',fZ,eX,_⟩:=Pu hs S
  refine ih N A ops hc ro n Q c' w a ia fZ ?_
  rw[hlen]
  exact hk.mono eX (Nat.le_refl _)
 | @BK code s R S hm t ih=>
  have hlen:(kb S s).H.length=s.H.length:=Ks
  intro N code hc ro n Q c w a ia hs hk
  obtain⟨c',fZ,eX,_⟩:=Pu hs S
  refine ih N code hc ro n Q c' w a ia fZ ?_
  rw[hlen]
  exact hk.mono eX (Nat.le_refl _)
 | @Kq l s R live t ih=>
  intro N A ops hc ro n Q c w a ia hs hk
  exact ih N A ops hc ro n Q c w a ia ⟨hs.eM,zg hs.env live,hs.size,hs.marks⟩ hk
 | @BJ code s R live t ih=>
  intro N code hc ro n Q c w a ia hs hk
  exact ih N code hc ro n Q c w a ia ⟨hs.eM,zg hs.env live,hs.size,hs.marks⟩ hk
 | @Bk e r s f args fn R1 R hg hc hf hp h ha t sF ih=>
  intro N A ops oF ro n Q c w a ia hs hk
  obtain⟨o,r',rfl,ho,kc⟩:=xc oF
  obtain⟨s1,s2,s3,s4⟩:=vG ho
  have hw:=rY hs.env s4 hg
  simp only[wpListIn,hw,if_true]
  obtain⟨func,code,h1,h2,t1,t2,t3,_⟩:=(hT.fn f fn hf).ex
  have iG:∀ d Hn,Ay R1 d Hn→(if fu args then lM d&&Hn.all mO else nU d&&Hn.all oi)=true∧after s e.dst args d Hn=some { s with env:=put s.env e.dst (jx s.H.length d),H:=s.H++Hn }:=fun d Hn hR=>by
   obtain⟨s',fZ⟩:=da.1 (ha d Hn hR)
   obtain⟨k1,rfl⟩:=TH fZ
   exact⟨k1,fZ⟩
  have s1:=Br s1 hc
  refine Tt hs s1 s3 hc t3 (R:=fun d H'=>∃ d0 Hn,Ay R1 d0 Hn∧d=jx s.H.length d0∧H'=s.H++Hn) (fun vs ie=>(afr hs.eM ie sF fun d Hn hR=>(iG d Hn hR).1).mono ?_) ?_
  ·rintro e w' ⟨v,c',d,Hn,he,hR,k1,k2,k3⟩
   exact⟨v,c',_,_,he,⟨d,Hn,hR,rfl,rfl⟩,k1,k2,k3⟩
  ·rintro d H' c' w' a' ⟨d0,Hn,hR,rfl,rfl⟩ fZ eX
   rw[← s2]at fZ
   exact ih d0 Hn _ hR (iG d0 Hn hR).2 N A r' kc ro n Q c' w' a' ia fZ (hk.mono eX (by simp))
 | @Bj e r s f args fn R1 R hg hc hf hp h t sF ih=>
  intro N A ops oF ro n Q c w a ia hs hk
  obtain⟨o,r',rfl,ho,kc⟩:=xc oF
  obtain⟨s1,s2,s3,s4⟩:=vG ho
  have hw:=rY hs.env s4 hg
  simp only[wpListIn,hw,if_true]
  obtain⟨func,code,h1,h2,t1,t2,t3,_⟩:=(hT.fn f fn hf).ex
  have s1:=Br s1 hc
  refine Tt hs s1 s3 hc t3 (R:=fun d H'=>Ay R1 d H'∧s.H.length≤H'.length) (fun vs ie=>(sF c w vs hs.eM ie).mono ?_) ?_
  ·rintro e w' ⟨v,c',d,H',he,hR,hle,k1,k2,k3⟩
   exact⟨v,c',d,H',he,⟨hR,hle⟩,k1,k2,k3⟩
  ·rintro d H' c' w' a' ⟨hR,hle⟩ fZ eX
   rw[← s2]at fZ
   exact ih d H' hR N A r' kc ro n Q c' w' a' ia fZ (hk.mono eX hle)
 | @GD e r s v args rf env0 Rd Ra Rb R hg hc hv hR hl ha hn hb hm t oL tE sG=>
  intro N A ops oF ro n Q c w a ia hs hk
  obtain⟨o,r',rfl,ho,kc⟩:=xc oF
  obtain⟨s1,s2,s3,s4⟩:=vG ho
  have hw:=rY hs.env s4 hg
  simp only[wpListIn,hw,if_true]
  obtain⟨M,ps,ac,bc,sx,HY,fq,KV,W8⟩:=(hT.round rf Rd hR).ex
  rw[← HY]at hl oL fq
  have s1:=s1.resolve_right fun h2=>by
   have:=J0 h2
   unfold yieldOf at hc
   split at hc
   ·rename_i heq;rw[heq]at this;cases this
   ·cases hc
  refine ag5 hs s1 s3 hc hv sx (by simpa using hl) (fun p hp=>by simpa using aq.1 fq p hp) (Ra:=outs Ra) (Rb:=outs Rb) ?_ hn ?_ hm ?_
  ·exact fun ro n Q c w a fZ jl=>oL M ac KV ro n Q c w a (fun h=>by cases h) fZ jl
  ·intro s1 ka vQ nR k9 ro n Q c w a fZ jl
   have:=tE s1 ka vQ k9 M bc W8 ro n Q c w a (fun h=>by simp[nR]at h) fZ
   simp only[cd,nR]at this
   exact this jl
  ·intro q jU c' w' a' vR oI hle fZ eX
   rw[← s2]at fZ
   exact sG q jU vR oI N A r' kc ro n Q c' w' a' ia fZ (hk.mono eX (by simpa using hle))
 | @next e r s x v m since seen kk es R hg gD hx hv hm pV h0 h1 Zm pX=>
  intro N A ops oF ro n Q c w a ia hs hk
  obtain⟨o,r',rfl,ho,kc⟩:=xc oF
  obtain⟨s1,s2,s3,s4⟩:=vG ho
  have hw:=rY hs.env s4 hg
  simp only[wpListIn,hw,if_true]
  rw[gD]at s1
  have s1:=s1.resolve_left fun h2=>afj h2
  refine ag1 hs s1 s3 hx hv hm pV ?_ ?_
  ·intro iF c' w' a' fZ eX
   rw[← s2]at fZ
   exact Zm iF N A r' kc ro n Q c' w' a' ia fZ (hk.mono eX (Nat.le_refl _))
  ·intro i k d hi xP c' w' a' fZ eX
   rw[← s2]at fZ
   exact pX i k d hi xP N A r' kc ro n Q c' w' a' ia fZ (hk.mono eX (by simp))
 | @skip s R h=>
  intro N code hc ro n Q c w a ia eM hk
  cases hc
  exact wpIn_skip (hk _ c w a h rfl (Nat.le_refl _) eM (Step.refl _ _ _ _))
 | @Bu l s R h ih=>
  intro N code hc ro n Q c w a ia eM hk
  cases hc with
  | ops h=>exact wpIn_region_list (ih N _ _ h ro n Q c w a ia eM hk)
 | @seq a b s R1 R h k hs pX qU=>
  intro N code hc ro n Q c w a ia eM hk
  cases hc with
  | seq h1 h2=>
   refine wpIn_seq (pX N _ h1 ro n _ c w a ia eM fun o c' w' a' hR nR hle pU eX=>?_)
   cases o with
   | norm s'=>
    have H0:s'.fW=s.fW:=nR
    refine qU s' hR N _ h2 ro n Q c' w' a' (fun h=>ia (by rw[← H0];exact h)) pU ?_
    rw[H0]
    exact hk.mono eX hle
   | exit id s'=>exact hk _ c' w' a' (hs _ hR rfl) nR hle pU eX
   | ret s'=>exact hk _ c' w' a' (hs _ hR rfl) nR hle pU eX
 | @cond c a b s x R hc h ih=>
  intro N code oF ro n Q c w a ia eM hk
  cases oF with
  | @cond cx ca cb _ _ _ hx h1 h2=>
   have hr:=gX eM.eM eM.env hx
   rw[hc]at hr
   have he:a.eval cx = .bool x:=by
    generalize a.eval cx=u at hr
    cases hr;rfl
   refine wpIn_cond he ?_
   cases x
   ·exact ih N _ h2 ro n Q c w a ia eM hk
   ·exact ih N _ h1 ro n Q c w a ia eM hk
 | @block id live a s R1 R h k ih=>
  have hlen:∀ s':St,s.H.length≤s'.H.length→s.H.length≤(cut s.H.length live s').H.length:=by
   intro s' h1
   unfold cut
   split
   ·exact h1
   ·dsimp only;rw[Jf];simp[ij]
  have Qu:∀ s':St,(cut s.H.length live s').fW=s'.fW:=by
   intro s'
   unfold cut
   split<;>rfl
  intro N code hc ro n Q c w a ia eM hk
  cases hc with
  | block h1=>
   refine wpIn_block (ih N _ h1 ro n _ c w a ia eM fun o c' w' a' hR nR hle pU eX=>?_)
   have oH:=k o hR
   cases o with
   | norm s'=>
    obtain⟨c2,mj,qq,_⟩:=J4 pU hle live
    exact hk (.norm (cut s.H.length live s')) c2 w' a' oH ((Qu s').trans nR) (hlen s' hle) mj (eX.trans qq (Nat.le_refl _))
   | exit wh s'=>
    by_cases uL:wh=id
    ·subst uL
     obtain⟨c2,mj,qq,_⟩:=J4 pU hle live
     simp only[mc,if_true]at oH
     have:=hk (.norm (cut s.H.length live s')) c2 w' a' oH ((Qu s').trans nR) (hlen s' hle) mj (eX.trans qq (Nat.le_refl _))
     simp only[Out.ex,Exit.inBlock,if_true]at this ⊢
     exact this
    ·simp only[mc,if_neg uL]at oH
     have:=hk _ c' w' a' oH nR hle pU eX
     simp only[Out.ex,Exit.inBlock,if_neg uL]at this ⊢
     exact this
   | ret s'=>exact hk _ c' w' a' oH nR hle pU eX
 | @Dz s R hR=>
  exact⟨[],s,hR,Nat.le_refl _,rfl,rfl,fun K k0 hK=>⟨[],rfl,rfl,rfl,.nil⟩⟩
 | @DB e r s d δ R1 R hg h t k ih=>
  obtain⟨rs,s',qm,i1,i2,i4,i3⟩:=ih
  refine⟨_,s',k _ _ qm,Nat.le_trans (JF δ s.H) i1,i2,i4,fun K k0 hK=>?_⟩
  obtain⟨items,e1,e2,e3,uF⟩:=i3 K (k0+1) hK
  obtain⟨a1,a2⟩:=JG (TM h) K (Nat.le_trans i1 hK)
  refine⟨⟨k0,e,s.H.length,⟨fH s.env.get s.H e.op,iS s.H.length δ⟩⟩::items,by simp[e1],by simp[e2],by simp[e3,bT],?_⟩
  have hE:Ef (CC P G) s.env.get (s.H++room (K-s.H.length)) e s.H.length ⟨fH s.env.get s.H e.op,iS s.H.length δ⟩ d δ:=by
   have:=Ef.op (C:=CC P G) (f:=s.env.get) (H:=s.H++room (K-s.H.length)) (e:=e) (n:=s.H.length) hg (by rw[TL];exact h) a2
   rwa [Ho]at this
  refine .cons hE ?_
  rw[a1]
  have hp:(put s.env e.dst d).get=lC s.env.get e.dst d:=C4 _ _ _
  rw[← hp]
  exact uF
 | @DA e r s R1 R hg t k ih=>
  obtain⟨rs,s',qm,i1,i2,i4,i3⟩:=ih
  refine⟨_,s',k _ _ qm,i1,i2,i4,fun K k0 hK=>?_⟩
  obtain⟨items,e1,e2,e3,uF⟩:=i3 K (k0+1) hK
  refine⟨⟨k0,e,0,⟨[],[]⟩⟩::items,by simp[e1],by simp[e2],by simp[e3,bT],.cons (.off hg) ?_⟩
  have hp:(put s.env e.dst (.val undef)).get=lC s.env.get e.dst (.val undef):=C4 _ _ _
  rw[← hp]
  exact uF
 | @Dw e r s f args fn d R0 R1 R hg hc hf hp h h0 hr t k sF ih=>
  obtain⟨rs,s',qm,i1,i2,i4,i3⟩:=ih
  refine⟨_,s',k _ _ qm,i1,i2,i4,fun K k0 hK=>?_⟩
  obtain⟨items,e1,e2,e3,uF⟩:=i3 K (k0+1) hK
  refine⟨⟨k0,e,0,⟨fH s.env.get s.H e.op,[]⟩⟩::items,by simp[e1],by simp[e2],by simp[e3,bT],?_⟩
  obtain⟨func,code,h1,h2,t1,t2,t3,_⟩:=(hT.fn f fn hf).ex
  have hE:Ef (CC P G) s.env.get (s.H++room (K-s.H.length)) e 0 ⟨fH s.env.get s.H e.op,[]⟩ d .no:=by
   have e0:args.map (eP (fun _=>none) (s.H++room (K-s.H.length)) 40)=args.map (eP (fun _=>none) s.H 40):=aj fun d _=>(Db 40 d).2
   have:=Ef.call (C:=CC P G) (f:=s.env.get) (H:=s.H++room (K-s.H.length)) (e:=e) (n:=0) hg hc (by rw[e0];exact⟨t3,sF.one h0⟩) hr
   rwa [Ho]at this
  refine .cons hE ?_
  have hp:(put s.env e.dst d).get=lC s.env.get e.dst d:=C4 _ _ _
  rw[← hp]
  exact uF
 | @Dx e r s f um args fn d ob R0 R1 R hg gD ha hf hp h h0 hr t k sF ih=>
  obtain⟨rs,s',qm,i1,i2,i4,i3⟩:=ih
  have hle:s.H.length≤(s.H ++ [ob]).length:=by simp
  refine⟨_,s',k _ _ qm,Nat.le_trans hle i1,i2,i4,fun K k0 hK=>?_⟩
  obtain⟨items,e1,e2,e3,uF⟩:=i3 K (k0+1) hK
  have Ly:Safe s.H (.new ob):=trivial
  obtain⟨a1,a2⟩:=JG (δ:=.new ob) Ly K (by have:(s.H ++ [ob]).length≤K:=Nat.le_trans i1 hK;simpa[Dl.app,Al.last]using this)
  refine⟨⟨k0,e,s.H.length,⟨fH s.env.get s.H e.op,[(s.H.length,none)]⟩⟩::items,by simp[e1],by simp[e2],by simp[e3,bT],?_⟩
  obtain⟨func,code,h1,h2,t1,t2,t3,_⟩:=(hT.fn f fn hf).ex
  have hE:Ef (CC P G) s.env.get (s.H++room (K-s.H.length)) e s.H.length ⟨fH s.env.get s.H e.op,[(s.H.length,none)]⟩ (jx s.H.length d) (.new ob):=by
   have e0:args.map (eP (fun _=>none) (s.H++room (K-s.H.length)) 40)=args.map (eP (fun _=>none) s.H 40):=aj fun d _=>(Db 40 d).2
   have:=Ef.callN (C:=CC P G) (f:=s.env.get) (H:=s.H++room (K-s.H.length)) (e:=e) (n:=s.H.length) hg gD ha (by rw[e0];exact⟨t3,sF.one h0⟩) hr a2
   rwa [Ho]at this
  refine .cons hE ?_
  have JC:ko s.H.length (.new ob) (s.H++room (K-s.H.length))=(s.H ++ [ob])++room (K-(s.H ++ [ob]).length):=a1
  show Tx (CC P G) (lC s.env.get e.dst (jx s.H.length d)) (ko s.H.length (.new ob) (s.H++room (K-s.H.length))) items _ _
  rw[JC]
  have hp:(put s.env e.dst (jx s.H.length d)).get=lC s.env.get e.dst (jx s.H.length d):=C4 _ _ _
  rw[← hp]
  exact uF
 | @Dy e r s f um args fn d v R0 R1 R hg gD ha hf hp hS hv gq fM h h0 hr t k sF ih=>
  obtain⟨rs,s',qm,i1,i2,i4,i3⟩:=ih
  have hle:s.H.length≤(s.H.set v .dead).length:=by simp
  refine⟨_,s',k _ _ qm,Nat.le_trans hle i1,i2,i4,fun K k0 hK=>?_⟩
  obtain⟨items,e1,e2,e3,uF⟩:=i3 K (k0+1) hK
  have gV:v<s.H.length:=by
   unfold rowsOf at gq
   split at gq
   ·rename_i q;exact(af.1 q).1
   ·cases gq
  have Ly:Safe s.H (.obj v .dead):=gV
  obtain⟨a1,a2⟩:=JG (δ:=.obj v .dead) Ly K (by have:(s.H.set v .dead).length≤K:=Nat.le_trans i1 hK;simpa[Dl.app]using this)
  refine⟨⟨k0,e,0,⟨fH s.env.get s.H e.op,[(v,none)]⟩⟩::items,by simp[e1],by simp[e2],by simp[e3,bT],?_⟩
  obtain⟨func,code,h1,h2,t1,t2,t3,_⟩:=(hT.fn f fn hf).ex
  have hE:Ef (CC P G) s.env.get (s.H++room (K-s.H.length)) e 0 ⟨fH s.env.get s.H e.op,[(v,none)]⟩ d (.obj v .dead):=by
   have e0:args.map (eP (fun _=>none) (s.H++room (K-s.H.length)) 40)=args.map (eP (fun _=>none) s.H 40):=aj fun d _=>(Db 40 d).2
   have e4:args.map (gv (s.H++room (K-s.H.length)) 40)=args.map (gv s.H 40):=aj fun d _=>(Db 40 d).1
   have:=Ef.w8 (C:=CC P G) (f:=s.env.get) (H:=s.H++room (K-s.H.length)) (e:=e) (n:=0) (v:=v) hg gD ha (by rw[e4];exact hS) (by rw[e4];exact hv) (by rw[MI];exact gq) (by rw[e0];exact⟨t3,sF.one h0⟩) (by rw[e0];exact fM) hr
   rwa [Ho]at this
  refine .cons hE ?_
  have JC:ko 0 (.obj v .dead) (s.H++room (K-s.H.length))=(s.H.set v .dead)++room (K-(s.H.set v .dead).length):=a1
  show Tx (CC P G) (lC s.env.get e.dst d) (ko 0 (.obj v .dead) (s.H++room (K-s.H.length))) items _ _
  rw[JC]
  have hp:(put s.env e.dst d).get=lC s.env.get e.dst d:=C4 _ _ _
  rw[← hp]
  exact uF
 | @kr iH l s R1 R t hp ih=>
  obtain⟨rs,s',qm,i1,i2,i4,i3⟩:=ih
  obtain⟨hp,WQ⟩:=hp rs s' qm
  intro N code hc ro n Q c w a ia eM hk
  cases hc with
  | @kr _ _ id A ord uH he ho nQ=>
   obtain⟨items,e1,e2,e3,xx⟩:=i3 s'.H.length 0 (Nat.le_refl _)
   have hlen:items.length=l.length:=by rw[← e1];simp
   have fM:∀ (ops:List Oper) (l:List eT),n5 P G N A ops=some l→ops.length=l.length∧∀ (i:Nat) (o:Oper) (e:eT),ops[i]? = some o→l[i]? = some e→tg P G N A o=some e:=by
    intro ops
    induction ops with
    | nil=>intro l h;cases h;exact⟨rfl,fun i o e h=>by simp at h⟩
    | cons o r LQ=>
     intro l h
     obtain⟨e,l',rfl,h1,h2⟩:=Bv h
     obtain⟨q1,q2⟩:=LQ l' h2
     refine⟨by simp[q1],fun i o' e' ho he=>?_⟩
     cases i with
     | zero=>simp at ho he;subst ho;subst he;exact h1
     | succ i=>exact q2 i o' e' (by simpa using ho) (by simpa using he)
   obtain⟨q1,q2⟩:=fM _ _ uH
   have hA:A.size=l.length:=by rw[← q1];simp
   have hJ:∀ (i:Nat) (it:mb),items[i]? = some it→it.k=i∧l[i]? = some it.e∧rs[i]? = some it.rc:=by
    intro i it hi
    have fq:=(af.1 hi).1
    refine⟨?_,by rw[← e1];simp[hi],by rw[← e2];simp[hi]⟩
    have:(items.map (·.k))[i]? = some it.k:=by simp[hi]
    rw[e3,List.getElem?_range' (by omega)]at this
    simpa using this.symm
   refine wpIn_region_any hM ?_
   have rM:e9 G c s.H { w with drawn:=w.drawn+1 }:=eM.eM.oD (jq.drew w)
   have Cj:Step s.H.length c s.H w c s.H { w with drawn:=w.drawn+1 }:=Av _ (jq.drew w)
   have LA:SX G N c { w with drawn:=w.drawn+1 } s.env.get (s.H++room (s'.H.length-s.H.length)) s.marks a:=
    ⟨SF rM _,jW.carry (fun _ _ h=>h.pd eM.eM.toHeapOK Cj) eM.env,eM.size,eM.marks⟩
   refine N1 (C:=CC P G) (fun g args d Hn h=>h) he ho A.size items _ c _ _ _ a (by omega) ?_ LA xx ?_ ?_ fun c' w' a' fZ eX=>?_
   ·refine⟨by simp,fun j hj=>?_,?_,fun it je=>?_,fun i hi hl=>?_⟩
    ·refine⟨fun _=>⟨items[j]'(by omega),bJ _,(hJ j _ (List.getElem?_eq_getElem _)).1⟩,fun _=>by simp[hj]⟩
    ·rw[aV]
     intro i j hi hj oZ
     rw[(hJ i _ (List.getElem?_eq_getElem hi)).1,(hJ j _ (List.getElem?_eq_getElem hj)).1]
     exact oZ
    ·obtain⟨i,hi⟩:=aF.1 je
     have fq:=(af.1 hi).1
     rw[(hJ i it hi).1];omega
    ·simp[hi]at hl
   ·intro it je
    obtain⟨i,hi⟩:=aF.1 je
    have fq:=(af.1 hi).1
    obtain⟨k1,k2,k3⟩:=hJ i it hi
    refine⟨A[i]'(by omega),by rw[k1];simp,q2 i _ _ (by simp) k2⟩
   ·intro p sB q hq Cc
    obtain⟨i,hi⟩:=aF.1 sB
    obtain⟨j,hj⟩:=aF.1 hq
    obtain⟨p1,p2,p3⟩:=hJ i p hi
    obtain⟨MB,MC,q3⟩:=hJ j q hj
    rw[p1,MB]at Cc ⊢
    have fq:=(af.1 hj).1
    have:=aq.1 (aq.1 nQ j (aY.2 (by omega))) i (aY.2 Cc)
    simp only[p2,MC,cg,ah,cV]at this
    rcases this with h|⟨h1,h2⟩
    ·exact .inl h
    ·refine .inr ⟨h1,?_⟩
     rcases h2 with h2|h2
     ·have:=aq.1 hp (i,j) h2
      simp only[p3,q3]at this
      exact this
     ·obtain⟨_,_,_,_,E1⟩:=xx.each p sB
      obtain⟨_,_,_,_,E2⟩:=xx.each q hq
      exact S8 E1 E2 h2
   ·simp only[Nat.sub_self,room,List.replicate_zero,aw]at fZ eX
    refine hk _ c' w' a' WQ i4 i1 ⟨fZ.eM,fZ.env,fZ.size,by show kD c' s'.marks _;rw[i2];exact fZ.marks⟩ ?_
    have h1:=Cj.trans (SG (c:=c) (w:={ w with drawn:=w.drawn+1 }) (H:=s.H) (s'.H.length-s.H.length) s.H.length) (Nat.le_refl _)
    exact h1.trans eX (by simp)
 | @lF iH l es s R1 R t hp k ih uX=>
  obtain⟨rs,s',qm,i1,i2,i4,i3⟩:=ih
  have hp:=hp rs s' qm
  have uX:=uX rs s' qm
  intro N code hc ro n Q c w a ia eM hk
  cases hc with
  | @lF _ _ _ id A ord uH he ho nQ vW=>
   obtain⟨items,e1,e2,e3,xx⟩:=i3 s'.H.length 0 (Nat.le_refl _)
   have hlen:items.length=l.length:=by rw[← e1];simp
   obtain⟨o1,o2,KE,c1,c2⟩:=OG uH
   obtain⟨q1,q2⟩:=OH c1
   obtain⟨q3,_⟩:=OH c2
   have hA:A.size=l.length+es.length:=by rw[← cM,KE,ay,q1,q3]
   have WH:∀ i,i<l.length→A[i]? = o1[i]? := fun i hi=>by
    rw[← bB,KE,ag (by omega)]
   have WI:∀ i,A[l.length+i]? = o2[i]? := fun i=>by
    rw[← bB,KE,ak (by omega)]
    congr 1;omega
   have hJ:∀ (i:Nat) (it:mb),items[i]? = some it→it.k=i∧l[i]? = some it.e∧rs[i]? = some it.rc∧i<l.length:=by
    intro i it hi
    have fq:=(af.1 hi).1
    refine⟨?_,by rw[← e1];simp[hi],by rw[← e2];simp[hi],by omega⟩
    have:(items.map (·.k))[i]? = some it.k:=by simp[hi]
    rw[e3,List.getElem?_range' (by omega)]at this
    simpa using this.symm
   refine wpIn_region_any hM ?_
   have rM:e9 G c s.H { w with drawn:=w.drawn+1 }:=eM.eM.oD (jq.drew w)
   have Cj:Step s.H.length c s.H w c s.H { w with drawn:=w.drawn+1 }:=Av _ (jq.drew w)
   have LA:SX G N c { w with drawn:=w.drawn+1 } s.env.get (s.H++room (s'.H.length-s.H.length)) s.marks a:=
    ⟨SF rM _,jW.carry (fun _ _ h=>h.pd eM.eM.toHeapOK Cj) eM.env,eM.size,eM.marks⟩
   have HR:∀ q∈(es.zipIdx l.length).map (fun p=>(⟨p.2,p.1,0,⟨[],[]⟩⟩:mb)),l.length≤q.k∧q.k<l.length+es.length:=fun q hq=>by
    obtain⟨p,sB,rfl⟩:=ao.1 hq
    obtain⟨x,y⟩:=p
    have:=List.mem_zipIdx sB
    exact⟨this.1,by show y<_;omega⟩
   have zI:((es.zipIdx l.length).map (fun p=>(⟨p.2,p.1,0,⟨[],[]⟩⟩:mb))).length=es.length:=by simp
   rw[show A.size=items.length+((es.zipIdx l.length).map (fun p=>(⟨p.2,p.1,0,⟨[],[]⟩⟩:mb))).length by rw[zI];omega]
   refine N2 (C:=CC P G) (fun g args d Hn h=>h) he ho (lasts:=(es.zipIdx l.length).map fun p=>⟨p.2,p.1,0,⟨[],[]⟩⟩) (ops:=o2) (fun q hq k hk=>vW q.k (HR q hq).1 (by simp;exact(HR q hq).2) k hk) ?_ items.length items _ c _ _ _ a rfl ?_ LA xx ?_ ?_ fun c' w' a' fZ eX=>?_
   ·refine bP fun i=>?_
    simp only[bp,av,List.getElem?_zipIdx]
    cases h:es[i]? with
    | none=>
     have:es.length≤i:=by simpa using h
     simp[aO (l:=o2) (i:=i) (by omega)]
    | some e=>
     have:=(af.1 h).1
     simp[WI,List.getElem?_eq_getElem (l:=o2) (i:=i) (by omega)]
   ·refine⟨by simp;omega,fun j hj=>?_,?_,fun it je=>?_,fun i hi hl=>?_⟩
    ·refine⟨fun _=>?_,fun _=>by rw[zI];simp[show j<items.length+es.length by omega]⟩
     by_cases oG:j<l.length
     ·exact⟨items[j]'(by omega),aX _ (bJ _),(hJ j _ (List.getElem?_eq_getElem _)).1⟩
     ·refine⟨⟨j,es[j-l.length]'(by omega),0,⟨[],[]⟩⟩,bE _ (ao.2 ⟨(es[j-l.length]'(by omega),j),?_,rfl⟩),rfl⟩
      rw[List.mem_zipIdx_iff_le_and_getElem?_sub]
      exact⟨by omega,by simp⟩
    ·refine bI.2 ⟨?_,?_,fun p sB q hq=>?_⟩
     ·rw[aV]
      intro i j hi hj oZ
      rw[(hJ i _ (List.getElem?_eq_getElem hi)).1,(hJ j _ (List.getElem?_eq_getElem hj)).1]
      exact oZ
     ·rw[aV]
      intro i j hi hj oZ
      simp
      omega
     ·obtain⟨i,hi⟩:=aF.1 sB
      have h1:=hJ i p hi
      have h2:=HR q hq
      omega
    ·rcases List.mem_append.1 je with je|je
     ·obtain⟨i,hi⟩:=aF.1 je
      have:=hJ i it hi
      omega
     ·have:=HR it je;omega
    ·rw[zI]at hl
     have:i<items.length+es.length:=by omega
     simp[this]at hl
   ·intro it je
    obtain⟨i,hi⟩:=aF.1 je
    obtain⟨k1,k2,k3,k4⟩:=hJ i it hi
    have h1:o1[i]? = some (o1[i]'(by omega)):=List.getElem?_eq_getElem _
    exact⟨o1[i]'(by omega),by rw[k1,WH i k4,h1],q2 i _ _ h1 k2⟩
   ·intro p sB q hq Cc
    obtain⟨i,hi⟩:=aF.1 sB
    obtain⟨j,hj⟩:=aF.1 hq
    obtain⟨p1,p2,p3,p4⟩:=hJ i p hi
    obtain⟨MB,MC,q3,q4⟩:=hJ j q hj
    rw[p1,MB]at Cc ⊢
    have:=aq.1 (aq.1 nQ j (aY.2 (by simp;omega))) i (aY.2 Cc)
    simp only[ag p4,ag q4,p2,MC,cg,ah,cV]at this
    rcases this with h|⟨h1,h2⟩
    ·exact .inl h
    ·refine .inr ⟨h1,?_⟩
     rcases h2 with h2|h2
     ·have:=aq.1 hp (i,j) h2
      simp only[p3,q3]at this
      exact this
     ·obtain⟨_,_,_,_,E1⟩:=xx.each p sB
      obtain⟨_,_,_,_,E2⟩:=xx.each q hq
      exact S8 E1 E2 h2
   ·simp only[Nat.sub_self,room,List.replicate_zero,aw]at fZ eX
    have h1:=Cj.trans (SG (c:=c) (w:={ w with drawn:=w.drawn+1 }) (H:=s.H) (s'.H.length-s.H.length) s.H.length) (Nat.le_refl _)
    have h2:=h1.trans eX (by simp)
    exact uX N A o2 c2 ro n Q c' w' a' (by rw[i4];exact ia) ⟨fZ.eM,fZ.env,fZ.size,by show kD c' s'.marks _;rw[i2];exact fZ.marks⟩ (by rw[i4];exact hk.mono h2 i1)
 | @loop live a s R h ih=>
  intro N code hc ro n Q c w a ia eM hk
  cases hc with
  | loop h1=>exact ag0 (ih (Nat.le_refl _) N _ h1 ro n Q c w a ia ⟨eM.eM,zg eM.env live,eM.size,eM.marks⟩ hk)
 | @wj n0 live a s R1 R h k hs pX qU=>
  intro hn N code hc ro n Q c w a ia eM hk
  refine aam (pX N _ hc ro n _ c w a ia eM fun o c' w' a' hR nR hle pU eX=>?_)
  cases o with
  | norm s'=>
   have Qa:n0≤s'.H.length:=Nat.le_trans hn hle
   have Xd:n0≤(cut n0 live s').H.length:=by
    unfold cut
    split
    ·exact Qa
    ·dsimp only;rw[Jf];simp[ij]
   have Ce:(cut n0 live s').fW=s.fW:=by
    have H0:s'.fW=s.fW:=nR
    unfold cut
    split<;>exact H0
   obtain⟨c2,mj,qq,_⟩:=J4 pU Qa live
   refine qU s' hR Xd N _ hc ro n Q c2 w' a' (fun h=>ia (by rw[← Ce];exact h)) mj ?_
   rw[Ce]
   exact hk.mono ((eX.weaken hn).trans qq (Nat.le_refl _)) (Nat.le_refl _)
  | exit id s'=>exact hk _ c' w' a' (hs _ hR rfl) nR (Nat.le_trans hn hle) pU (eX.weaken hn)
  | ret s'=>exact hk _ c' w' a' (hs _ hR rfl) nR (Nat.le_trans hn hle) pU (eX.weaken hn)
 | @l5 rf live x s f first cap fn R1 R nR hx hf hp h k ih=>
  intro N code hc ro n Q c w a ia eM hk
  have YC:=ia nR
  subst YC
  cases hc with
  | l5 YX sx=>
   obtain⟨func,code,h1,h2,t1,t2,t3,_⟩:=(hT.fn f fn hf).ex
   exact ag3 eM YX hx t3 sx (live:=live) (R1:=Ay R1) (R:=outs R) ih k hk
 | @exit id s R h=>
  intro N code hc ro n Q c w a ia eM hk
  cases hc
  exact wpIn_exit (hk _ c w a h rfl (Nat.le_refl _) eM (Step.refl _ _ _ _))
 | @ret s R h=>
  intro N code hc ro n Q c w a ia eM hk
  cases hc
  exact wpIn_ret (hk _ c w a h rfl (Nat.le_refl _) eM (Step.refl _ _ _ _))
 | @call f args H fn R1 R own hf hl h k ih=>
  intro c w vs eM ie
  obtain⟨func,code,hs,fZ,t1,t2,t3,t7,t4,t5,t6⟩:=(hT.fn f fn hf).ex
  have Ce:=afv hT.rt t1 t2 t7
  rw[t5]at Ce
  refine callsIn_wide (n:=0) |>.1 (callsIn_of_wp_marks (F:=FW none) t1 t2 trivial (ih fn.ntmps code (JP Ce t4) none 0 _ c w _ (fun _=>rfl) ⟨eM,U' ie _,?_,.nil⟩ ?_))
  ·simp;omega
  ·intro o c' w' a' hR nR hle mJ eX
   obtain⟨d,H',lU,WR⟩:=k o hR
   have main:∀ s:St,o.st=s→∀ H1,kill s.marks s.H=some H1→∀ d0,AL.results fn { s with H:=H1 }=some d0→leave own H.length H1 d0=(d,H') →
     LeavesInM (FW none) 0 P func a'.tmps (fun e w'=>∃ v c' d H',e = .returned v∧Ay R d H'∧H.length≤H'.length∧e9 G c' H' w'∧eJ c' w' v d∧Step H.length c H w c' H' w') a'.defers .returning w':=by
    rintro s rfl H1 XF d0 zQ XL
    refine Z' mJ.marks mJ.eM XF fun w1 q1 q2 q3=>?_
    have H4:jX G fn.ntmps c' w1 { o.st with H:=H1,marks:=[] } { a' with defers:=[] }:=⟨q1,fun j=>(mJ.env j).pd mJ.eM.toHeapOK q2,mJ.size,.nil⟩
    obtain⟨v,hv,LG⟩:=afH H4 t6 (d:=d0) (by rw[← zQ];exact afG { o.st with H:=H1 } [])
    have XK:H.length≤H1.length:=by rw[q3];exact hle
    obtain⟨c2,k1,k2,k3,k4⟩:=Z9 q1 XK own LG
    rw[XL]at k1 k2 k3 k4
    exact⟨v,hv,v,c2,d,H',rfl,WR,k4,k1,k2,(eX.trans q2 hle).trans k3 (Nat.le_refl _)⟩
   have P0:∀ s:St,finish fn own H.length (.norm s)=some (d,H')→∃ H1,kill s.marks s.H=some H1∧∃ d0,AL.results fn { s with H:=H1 }=some d0∧leave own H.length H1 d0=(d,H'):=by
    intro s hf
    simp only[finish]at hf
    split at hf
    ·rename_i H1 oH
     split at hf
     ·rename_i d0 jV
      exact⟨H1,oH,d0,jV,c8 hf⟩
     ·cases hf
    ·cases hf
   cases o with
   | norm s=>
    obtain⟨H1,q1,d0,q2,q3⟩:=P0 s lU
    exact main s rfl H1 q1 d0 q2 q3
   | ret s=>
    obtain⟨H1,q1,d0,q2,q3⟩:=P0 s lU
    exact main s rfl H1 q1 d0 q2 q3
   | exit id s=>cases lU
end
end Go.AL
namespace Go.AL
open Go
def Hc:Value→Value→Bool
 | .int k a,.int k' b=>decide (k=k')&&decide (a=b)
 | .bool a,.bool b=>a == b
 | .string a,.string b=>decide (a.data.toList=b.data.toList)
 | .nilFunc,.nilFunc=>true
 | .tuple a,.tuple b=>a.toList.isEmpty&&b.toList.isEmpty
 | _,_=>false
mutual
def oc:D→D→Bool
 | .any,.any=>true
 | .val a,.val b=>Hc a b
 | .agg a,.agg b=>qI a b
 | .tup a,.tup b=>qI a b
 | .sl n a,.sl m b=>decide (n=m)&&zh a b
 | .eG,.eG=>true
 | .eF a b c d e,.eF a' b' c' d' e'=>decide (a=a')&&decide (b=b')&&decide (c=c')&&decide (d=d')&&decide (e=e')
 | .ptr a b c,.ptr a' b' c'=>decide (a=a')&&decide (b=b')&&decide (c=c')
 | .eW a,.eW b=>qI a b
 | .fE a,.fE b=>decide (a=b)
 | .ic a,.ic b=>decide (a=b)
 | .fn (.func f) a b,.fn (.func f') a' b'=>decide (f=f')&&qI a a'&&qI b b'
 | _,_=>false
def qI:List D→List D→Bool
 | [],[]=>true
 | a::l,b::m=>oc a b&&qI l m
 | _,_=>false
def zh:List (List D)→List (List D)→Bool
 | [],[]=>true
 | a::l,b::m=>qI a b&&zh l m
 | _,_=>false
end
def xf:Env→Env→Bool
 | [],[]=>true
 | (i,a)::l,(j,b)::m=>decide (i=j)&&oc a b&&xf l m
 | _,_=>false
def zi:List (Value×D)→List (Value×D)→Bool
 | [],[]=>true
 | (i,a)::l,(j,b)::m=>Hc i j&&oc a b&&zi l m
 | _,_=>false
def Kb:Ob→Ob→Bool
 | .row t g a,.row t' g' b=>decide (t=t')&&decide (g=g')&&qI a b
 | .map k a,.map k' b=>decide (k=k')&&zi a b
 | .gu r e s,.gu r' e' s'=>decide (r=r')&&xf e e'&&decide (s=s')
 | .qA a p,.qA b q=>decide (a.data.toList=b.data.toList)&&decide (p=q)
 | .jJ m s l,.jJ m' s' l'=>oc m m'&&decide (s=s')&&decide (l=l')
 | .jZ,.jZ=>true
 | .dead,.dead=>true
 | .kW,.kW=>true
 | _,_=>false
def xg:U→U→Bool
 | [],[]=>true
 | a::l,b::m=>Kb a b&&xg l m
 | _,_=>false
def BD(s t:St):Bool:=xf s.env t.env&&xg s.H t.H&&decide (s.marks=t.marks)&&(s.fW == t.fW)
def Kc:Out→Out→Bool
 | .norm s,.norm t=>BD s t
 | .exit i s,.exit j t=>decide (i=j)&&BD s t
 | .ret s,.ret t=>BD s t
 | _,_=>false
def Kd(a b:D×U):Bool:=oc a.1 b.1&&xg a.2 b.2
def once{α:Type}(eq:α→α→Bool):List α→List α
 | []=>[]
 | [a]=>[a]
 | a::l=>let m:=once eq l;if m.any (eq a)then m else a::m
def qe{α β:Type}:List α→(α→Option (List β))→Option (List β)
 | [],_=>some []
 | [a],f=>f a
 | a::l,f=>match f a,qe l f with
  | some x,some y=>some (x++y)
  | _,_=>none
abbrev vh:=FuncId→List D→U→Option (List (D×U))
abbrev yH:=IR→St→Option (List Out)
def Sp(s:St)(args:List D):List Nat:=dedup (args.map (gv s.H 40)).flatten
def I8(cl:vh)(e:eT)(f:FuncId)(s:St):Option (List St):=
 match jA s.env.get e.op with
 | none=>none
 | some (f',args)=>if f'=f then(match cl f (args.map (eP (fun _=>none) s.H 40)) []with
  | some l=>qe l fun p=>match after s e.dst args p.1 p.2 with
   | some s'=>some [s']
   | none=>none
  | none=>none)else none
def MK(T:gy)(cl:vh)(e:eT)(s:St):Option (List St):=
 match jA s.env.get e.op with
 | none=>none
 | some (f,args)=>match T.fn f with
  | none=>none
  | some fn=>
   match fn.full with
   | true=>match cl f args s.H with
    | some l=>some (l.map fun p=>{ s with env:=put s.env e.dst p.1,H:=p.2 })
    | none=>none
   | false=>if fn.fz&&s.marks.isEmpty && !fu args then I8 cl e f (kb (Sp s args) s)else I8 cl e f s
def MO(T:gy)(rd:yH)(e:eT)(s:St)(v:Nat)(args:List D):Option (List St):=
 match s.H[v]? with
 | some (.gu rf env0 .ready)=>match T.round rf with
  | some Rd=>if args.length=Rd.params.length then
    match rd Rd.a { env:=re Rd.params args env0,H:=s.H,fW:=true }with
    | some la=>match qe la fun o=>match o with
      | .norm s1=>match s1.H[v]? with
       | some (.gu Su ka .ready)=>if Su=rf then rd Rd.b { s1 with H:=s1.H.set v (.gu rf ka .busy) }else none
       | _=>none
      | _=>none with
     | some lb=>qe lb fun o=>match o.st.H[v]? with
      | some (.gu Sv jU .busy)=>if Sv=rf then some [{ s with env:=put s.env e.dst (.b !o.stop),H:=o.st.H.set v (.gu rf jU o.tS) }]else none
      | _=>none
     | none=>none
    | none=>none
   else none
  | none=>none
 | _=>none
def MN(e:eT)(s:St)(x:X):Option (List St):=
 match ev s.env.get x with
 | .ptr v 0 0=>match s.H[v]? with
  | some (.jJ (.fE m) since seen)=>match s.H[m]? with
   | some (.map _ es)=>if es.length=since then
     let left:=(List.range es.length).filter fun i => !seen.contains i
     if left.isEmpty then some [{ s with env:=put s.env e.dst (.tup [.b false]) }]else
      some (left.filterMap fun i=>match es[i]? with
       | some (k,d)=>some { s with env:=put s.env e.dst (.tup [.b true,.val k,d]),H:=s.H.set v (.jJ (.fE m) since (seen ++ [i])) }
       | none=>none)
    else none
   | _=>none
  | _=>none
 | _=>none
def tT(T:gy)(cl:vh)(rd:yH):List eT→St→Option (List St)
 | [],s=>some [s]
 | e::r,s=>match guardOf s.env.get e.guard with
  | none=>none
  | some false=>tT T cl rd r { s with env:=put s.env e.dst (.val undef) }
  | some true=>match fG s.env.get s.H s.H.length e.op with
   | some (d,δ)=>tT T cl rd r { s with env:=put s.env e.dst d,H:=δ.app s.H (Al.last s.H) }
   | none=>match l6 s.env.get s.H s.H.length e.op with
    | some (d,δ)=>tT T cl rd r { s with env:=put s.env e.dst d,H:=δ.app s.H (Al.last s.H) }
    | none=>match e.op with
     | .nextM x=>match MN e s x with
      | some l=>qe l fun s'=>tT T cl rd r s'
      | none=>none
     | _=>match yieldOf s.env.get e.op with
      | some (v,args)=>match MO T rd e s v args with
       | some l=>qe l fun s'=>tT T cl rd r s'
       | none=>none
      | none=>match jA s.env.get e.op with
       | none=>none
       | some _=>match MK T cl e s with
        | some l=>qe l fun s'=>tT T cl rd r s'
        | none=>none
def Zr:gP→Bool
 | .callN _ _=>true
 | _=>false
def u9(T:gy)(cl:vh)(st:Bool):List eT→St→Option (List Rc×St)
 | [],s=>some ([],s)
 | e::r,s=>match guardOf s.env.get e.guard with
  | none=>none
  | some false=>match u9 T cl st r { s with env:=put s.env e.dst (.val undef) }with
   | some (rs,s')=>some (⟨[],[]⟩::rs,s')
   | none=>none
  | some true=>match fG s.env.get s.H s.H.length e.op with
   | some (d,δ)=>match u9 T cl st r { s with env:=put s.env e.dst d,H:=δ.app s.H (Al.last s.H) }with
    | some (rs,s')=>some (⟨fH s.env.get s.H e.op,iS s.H.length δ⟩::rs,s')
    | none=>none
   | none=>match jA s.env.get e.op with
    | none=>none
    | some (f,args)=>match T.fn f with
     | none=>none
     | some fn=>if fn.full||(st&&fn.fz && !fu args && !Zr e.op)then none else match cl f (args.map (eP (fun _=>none) s.H 40)) []with
      | some [(d,[])]=>if (if fu args then closed d else flat d)then(match u9 T cl st r { s with env:=put s.env e.dst d }with
       | some (rs,s')=>some (⟨fH s.env.get s.H e.op,[]⟩::rs,s')
       | none=>none)else(match e.op with
       | .callN _ _=>match (args.map (gv s.H 40)).flatten with
        | v::l=>if (l.all fun u=>decide (u=v))&&(rowsOf s.H v).isSome&&fu (args.map (eP (fun _=>none) s.H 40))&&closed d then(match u9 T cl st r { s with env:=put s.env e.dst d,H:=s.H.set v .dead }with
         | some (rs,s')=>some (⟨fH s.env.get s.H e.op,[(v,none)]⟩::rs,s')
         | none=>none)else none
        | []=>none
       | _=>none)
      | some [(d,[ob])]=>match e.op with
       | .callN _ _=>if (if fu args then lM d&&mO ob else nU d&&oi ob)then(match u9 T cl st r { s with env:=put s.env e.dst (jx s.H.length d),H:=s.H ++ [ob] }with
        | some (rs,s')=>some (⟨fH s.env.get s.H e.op,[(s.H.length,none)]⟩::rs,s')
        | none=>none)else none
       | _=>none
      | _=>none
def pL(T:gy)(cl:vh)(lp:Nat→List Nat→IR→St→Option (List Out))(rd:yH):IR→St→Option (List Out)
 | .skip,s=>some [.norm s]
 | .ops l,s=>match tT T cl rd l s with
  | some l=>some (l.map .norm)
  | none=>none
 | .kr iH l,s=>match u9 T cl true l s with
  | some (rs,s')=>if sJ iH rs then some [.norm s']else none
  | none=>if s.marks.isEmpty then(match u9 T cl false l (kb (List.range s.H.length) s)with
   | some (rs,s')=>if sJ iH rs then some [.norm s']else none
   | none=>none)else none
 | .lF ..,_=>none
 | .seq a b,s=>match pL T cl lp rd a s with
  | some l=>qe l fun o=>match o with
   | .norm s'=>pL T cl lp rd b s'
   | o=>some [o]
  | none=>none
 | .cond c a b,s=>match ev s.env.get c with
  | .val (.bool true)=>pL T cl lp rd a s
  | .val (.bool false)=>pL T cl lp rd b s
  | _=>none
 | .block id live a,s=>match pL T cl lp rd a s with
  | some l=>some (once Kc (l.map (mc id s.H.length live)))
  | none=>none
 | .loop live a,s=>lp s.H.length live a { s with env:=forget live s.env }
 | .l5 rf live x,s=>if s.fW then none else match ev s.env.get x with
  | .fn (.func f) first cap=>match T.fn f with
   | some fn=>if fn.full then
     match cl f (first ++ [.ic (s.H.length+1)]++cap) (s.H ++ [.jZ,.gu rf (forget live s.env) .ready])with
     | some l=>qe l fun p=>match p.2[s.H.length+1]? with
      | some (.gu Ss _ st)=>if Ss=rf then(match yj { s with H:=p.2.set (s.H.length+1) .dead,marks:=s.H.length::s.marks } st with
       | some o=>some [o]
       | none=>none)else none
      | _=>none
     | none=>none
    else none
   | none=>none
  | _=>none
 | .exit id,s=>some [.exit id s]
 | .ret,s=>some [.ret s]
 | .bad,_=>none
 | .fz _ _,_=>none
 | .sv _ _ _,_=>none
abbrev sZ:=List (FuncId×List D×List (D×U))
def C8:sZ→FuncId→List D→Option (List (D×U))
 | [],_,_=>none
 | (g,um,l)::M,f,args=>match Nat.beq g f with
  | true=>match qI um args with
   | true=>some l
   | false=>C8 M f args
  | false=>C8 M f args
def known(M:sZ)(f:FuncId)(args:List D):U→Option (List (D×U))
 | []=>C8 M f args
 | _=>none
mutual
def yq(T:gy)(M:sZ):Nat→Nat→List Nat→IR→St→Option (List Out)
 | 0,_,_,_,_=>none
 | k+1,n,live,a,s=>match pL T (run T M k) (yq T M k) (Am T M k) a s with
  | some l=>qe l fun o=>match o with
   | .norm s'=>yq T M k n live a (cut n live s')
   | o=>some [o]
  | none=>none
def Am(T:gy)(M:sZ):Nat→yH
 | 0,_,_=>none
 | k+1,c,s=>pL T (run T M k) (yq T M k) (Am T M k) c s
def run(T:gy)(M:sZ):Nat→vh
 | 0,_,_,_=>none
 | k+1,f,args,H=>match known M f args H with
  | some l=>some l
  | none=>match T.fn f with
  | none=>none
  | some fn=>if args.length≤fn.ntmps then(match pL T (run T M k) (yq T M k) (Am T M k) fn.body { env:=qY args,H:=H }with
   | some l=>match qe l fun o=>match finish fn fn.own H.length o with
     | some p=>some [p]
     | none=>none with
    | some ps=>some (once Kd ps)
    | none=>none
   | none=>none)else none
end
end Go.AL
namespace Go.AL
open Go
def O0{a b:Value}(h:Hc a b=true):a=b:=by
 unfold Hc at h
 split at h
 ·simp only[ah,decide_eq_true_eq]at h;rw[h.1,h.2]
 ·simp only[beq_iff_eq]at h;rw[h]
 ·rename_i a b
  simp only[decide_eq_true_eq]at h
  have:a=b:=by
   cases a;cases b
   congr 1
   exact dS h
  rw[this]
 ·rfl
 ·simp only[ah,cL]at h
  rw[show _ = #[]from dS h.1,show _ = #[]from dS h.2]
 ·cases h
mutual
theorem BC:∀ {a b:D},oc a b=true→a=b
 | .any,b,h=>by cases b<;>simp[oc]at h ⊢
 | .val a,b,h=>by
  cases b<;>simp[oc]at h ⊢
  exact O0 h
 | .agg a,b,h=>by
  cases b<;>simp[oc]at h ⊢
  exact uB h
 | .tup a,b,h=>by
  cases b<;>simp[oc]at h ⊢
  exact uB h
 | .sl n a,b,h=>by
  cases b<;>simp[oc]at h ⊢
  exact⟨h.1,OX h.2⟩
 | .eG,b,h=>by cases b<;>simp[oc]at h ⊢
 | .eF a1 a2 a3 a4 a5,b,h=>by
  cases b<;>simp[oc]at h ⊢
  simp[h]
 | .ptr a1 a2 a3,b,h=>by
  cases b<;>simp[oc]at h ⊢
  simp[h]
 | .eW a,b,h=>by
  cases b<;>simp[oc]at h ⊢
  exact uB h
 | .fE a,b,h=>by cases b<;>simp[oc]at h ⊢;exact h
 | .ic a,b,h=>by cases b<;>simp[oc]at h ⊢;exact h
 | .fn f a a',b,h=>by
  cases f<;>cases b<;>first|(simp[oc]at h;done)|skip
  rename_i f g b b'
  cases g<;>simp[oc]at h ⊢
  exact⟨h.1.1,uB h.1.2,uB h.2⟩
theorem uB:∀ {a b:List D},qI a b=true→a=b
 | [],[],_=>rfl
 | a::l,b::m,h=>by
  simp only[qI,ah]at h
  rw[BC h.1,uB h.2]
 | [],_::_,h=>by simp[qI]at h
 | _::_,[],h=>by simp[qI]at h
theorem OX:∀ {a b:List (List D)},zh a b=true→a=b
 | [],[],_=>rfl
 | a::l,b::m,h=>by
  simp only[zh,ah]at h
  rw[uB h.1,OX h.2]
 | [],_::_,h=>by simp[zh]at h
 | _::_,[],h=>by simp[zh]at h
end
theorem J':∀ {a b:Env},xf a b=true→a=b
 | [],[],_=>rfl
 | (i,a)::l,(j,b)::m,h=>by
  simp only[xf,ah,decide_eq_true_eq]at h
  rw[h.1.1,BC h.1.2,J' h.2]
 | [],_::_,h=>by simp[xf]at h
 | _::_,[],h=>by simp[xf]at h
theorem OY:∀ {a b:List (Value×D)},zi a b=true→a=b
 | [],[],_=>rfl
 | (i,a)::l,(j,b)::m,h=>by
  simp only[zi,ah]at h
  rw[O0 h.1.1,BC h.1.2,OY h.2]
 | [],_::_,h=>by simp[zi]at h
 | _::_,[],h=>by simp[zi]at h
def Va{a b:Ob}(h:Kb a b=true):a=b:=by
 unfold Kb at h
 split at h
 ·simp only[ah,decide_eq_true_eq]at h;rw[h.1.1,h.1.2,uB h.2]
 ·simp only[ah,decide_eq_true_eq]at h;rw[h.1,OY h.2]
 ·simp only[ah,decide_eq_true_eq]at h;rw[h.1.1,J' h.1.2,h.2]
 ·rename_i a p b q
  simp only[ah,decide_eq_true_eq]at h
  have:a=b:=by
   cases a;cases b
   congr 1
   exact dS h.1
  rw[this,h.2]
 ·simp only[ah,decide_eq_true_eq]at h;rw[BC h.1.1,h.1.2,h.2]
 ·rfl
 ·rfl
 ·rfl
 ·cases h
theorem Ka:∀ {a b:U},xg a b=true→a=b
 | [],[],_=>rfl
 | a::l,b::m,h=>by
  simp only[xg,ah]at h
  rw[Va h.1,Ka h.2]
 | [],_::_,h=>by simp[xg]at h
 | _::_,[],h=>by simp[xg]at h
def Ke{a b:St}(h:BD a b=true):a=b:=by
 obtain⟨e,H,m,r⟩:=a
 obtain⟨e',H',m',r'⟩:=b
 simp only[BD,ah,decide_eq_true_eq,beq_iff_eq]at h
 obtain⟨⟨⟨h1,h2⟩,h3⟩,h4⟩:=h
 rw[J' h1,Ka h2,h3,h4]
def Vb{a b:Out}(h:Kc a b=true):a=b:=by
 unfold Kc at h
 split at h
 ·rw[Ke h]
 ·simp only[ah,decide_eq_true_eq]at h;rw[h.1,Ke h.2]
 ·rw[Ke h]
 ·cases h
def Vc{a b:D×U}(h:Kd a b=true):a=b:=by
 simp only[Kd,ah]at h
 exact Prod.ext (BC h.1) (Ka h.2)
theorem IN{α:Type}{eq:α→α→Bool}(h:∀ a b,eq a b=true→a=b):∀ {l:List α} {a:α},a∈l→a∈once eq l
 | [a],b,hb=>hb
 | a::b::l,c,hc=>by
  rw[once]
  ·split
   ·rename_i WY
    rcases au.1 hc with rfl|hc
    ·obtain⟨d,hd,K3⟩:=List.any_eq_true.1 WY
     rw[h _ _ K3];exact hd
    ·exact IN h hc
   ·rcases au.1 hc with rfl|hc
    ·exact b7
    ·exact aS _ (IN h hc)
  ·intro e;cases e
theorem uk{α β:Type}{f:α→Option (List β)}:∀ {l:List α} {r:List β},qe l f=some r→∀ a∈l,∃ y,f a=some y∧∀ b∈y,b∈r
 | [],r,_,a,ha=>by simp at ha
 | [a],r,h,b,hb=>by
  simp only[List.mem_singleton]at hb
  subst hb
  exact⟨r,h,fun _ h=>h⟩
 | a::b::l,r,h,c,hc=>by
  rw[qe]at h
  ·split at h
   ·rename_i x y hx hy
    cases h
    rcases au.1 hc with rfl|hc
    ·exact⟨x,hx,fun _ h=>aX _ h⟩
    ·obtain⟨z,hz,Zd⟩:=uk hy c hc
     exact⟨z,hz,fun d hd=>bE _ (Zd d hd)⟩
   ·cases h
  ·intro e;cases e
section
variable{T:gy}{cl:vh}{rd:yH}
def sY(l:List Out):nY→Prop:=fun r=>∃ o∈l,r = .out o
def A3(l:List St):nY→Prop:=fun r=>∃ s∈l,r = .out (.norm s)
def qE(l:List (D×U)):nY→Prop:=fun r=>∃ p∈l,r = .val p.1 p.2
def pO(T:gy)(cl:vh):Prop:=∀ f args H l,cl f args H=some l→Ev T (.call f args H) (qE l)
def Gs(T:gy)(rd:yH):Prop:=∀ c s l,rd c s=some l→Ev T (.code c s) (sY l)
theorem sY.out{l:List Out}{o:Out}(h:sY l (.out o)):o∈l:=by
 obtain⟨o',h1,h2⟩:=h
 cases h2;exact h1
theorem qE.val{l:List (D×U)}{d:D}{H:U}(h:qE l (.val d H)):(d,H)∈l:=by
 obtain⟨o',h1,h2⟩:=h
 cases h2;exact h1
def A3.sub{a b:List St}(h:∀ s∈a,s∈b){r:nY}(hr:A3 a r):A3 b r:=by
 obtain⟨s,h1,h2⟩:=hr
 exact⟨s,h s h1,h2⟩
def sY.sub{a b:List Out}(h:∀ s∈a,s∈b){r:nY}(hr:sY a r):sY b r:=by
 obtain⟨s,h1,h2⟩:=hr
 exact⟨s,h s h1,h2⟩
def Wi{S:List Nat}{s:St}{g:Option (Nat×Bool)}{b:Bool}(h:guardOf s.env.get g=some b):guardOf (kb S s).env.get g=some b:=by
 cases g with
 | none=>exact h
 | some p=>
  simp only[guardOf,kb]at h ⊢
  have e:Env.get (s.env.map fun p=>(p.1,eP (ga (kR s.H S)) s.H 40 p.2)) p.1=eP (ga (kR s.H S)) s.H 40 (s.env.get p.1):=by
   generalize s.env=env
   induction env with
   | nil=>rfl
   | cons q r ih=>
    obtain⟨j,d⟩:=q
    simp only[List.map_cons,Env.tj]
    split
    ·rfl
    ·exact ih
  rw[e]
  split at h
  ·rename_i x hx
   rw[hx]
   have:eP (ga (kR s.H S)) s.H 40 (.val (.bool x)) = .val (.bool x):=by unfold eP;rfl
   rw[this]
   exact h
  ·rename_i vs hx
   rw[hx]
   have:eP (ga (kR s.H S)) s.H 40 (.val (.tuple vs)) = .val (.tuple vs):=by unfold eP;rfl
   rw[this]
   exact h
  ·cases h
def SK(fM:pO T cl){e:eT}{r:List eT}{f:FuncId}{fn:eI}{s:St}{l:List St}{R:nY→Prop}(hg:guardOf s.env.get e.guard=some true)(hf:T.fn f=some fn)(hp:fn.full=false)
  (h:I8 cl e f s=some l) (k:∀ s'∈l,Ev T (.ops r s') R):Ev T (.ops (e::r) s) R:=by
 unfold I8 at h
 split at h
 ·cases h
 ·rename_i f' args hc
  split at h
  ·rename_i e1
   subst e1
   split at h
   ·rename_i l0 iQ
    have hm:=uk h
    refine .Bk hg hc hf hp (fM _ _ _ _ iQ) (fun d Hn hd=>?_) fun d Hn s' hd fZ=>?_
    ·obtain⟨y,hy,_⟩:=hm _ hd.val
     dsimp only at hy
     split at hy
     ·rename_i q;rw[q];rfl
     ·cases hy
    ·obtain⟨y,hy,jP⟩:=hm _ hd.val
     dsimp only at hy
     rw[fZ]at hy
     cases hy
     exact k s' (jP s' (by simp))
   ·cases h
  ·cases h
def afU(fM:pO T cl){e:eT}{r:List eT}{s:St}{l:List St}{R:nY→Prop}(hg:guardOf s.env.get e.guard=some true)
  (h:MK T cl e s=some l) (k:∀ s'∈l,Ev T (.ops r s') R):Ev T (.ops (e::r) s) R:=by
 unfold MK at h
 split at h
 ·cases h
 ·rename_i f args hc
  split at h
  ·cases h
  ·rename_i fn hf
   split at h
   ·rename_i uJ
    split at h
    ·rename_i l0 iQ
     cases h
     refine .Bj hg hc hf uJ (fM _ _ _ _ iQ) fun d H' hd=>k _ ?_
     exact ao.2 ⟨(d,H'),hd.val,rfl⟩
    ·cases h
   ·rename_i uJ
    split at h
    ·rename_i iG
     simp only[ah,cL]at iG
     refine .kb (Sp s args) ?_ (SK fM (Wi hg) hf uJ h k)
     rw[iG.1.2];rfl
    ·exact SK fM hg hf uJ h k
def afW(tA:Gs T rd){e:eT}{r:List eT}{s:St}{v:Nat}{args:List D}{l:List St}{R:nY→Prop}(hg:guardOf s.env.get e.guard=some true)(hc:yieldOf s.env.get e.op=some (v,args))
  (h:MO T rd e s v args=some l) (k:∀ s'∈l,Ev T (.ops r s') R):Ev T (.ops (e::r) s) R:=by
 unfold MO at h
 split at h
 ·rename_i rf env0 hv
  split at h
  ·rename_i Rd hR
   split at h
   ·rename_i hl
    split at h
    ·rename_i la vW
     split at h
     ·rename_i lb XJ
      have hA:=uk XJ
      have hB:=uk h
      refine .GD hg hc hv hR hl (tA _ _ _ vW) (Rb:=sY lb) (fun o ho=>?_) (fun s1 ka mR k9=>?_) (fun o ho=>?_) fun o jU ho oI=>?_
      ·obtain⟨y,hy,_⟩:=hA o ho.out
       split at hy
       ·rename_i s1
        split at hy
        ·rename_i Su ka k9
         split at hy
         ·rename_i e1;subst e1;exact⟨rfl,ka,k9⟩
         ·cases hy
        ·cases hy
       ·cases hy
      ·obtain⟨y,hy,jP⟩:=hA _ mR.out
       simp only[k9,if_true]at hy
       exact(tA _ _ _ hy).mono fun r hr=>hr.sub jP
      ·obtain⟨y,hy,_⟩:=hB o ho.out
       split at hy
       ·rename_i Sv jU oI
        split at hy
        ·rename_i e2;subst e2;exact⟨jU,oI⟩
        ·cases hy
       ·cases hy
      ·obtain⟨y,hy,jP⟩:=hB o ho.out
       simp only[oI,if_true]at hy
       cases hy
       exact k _ (jP _ (by simp))
     ·cases h
    ·cases h
   ·cases h
  ·cases h
 ·cases h
def afV{e:eT}{r:List eT}{s:St}{x:X}{l:List St}{R:nY→Prop}(hg:guardOf s.env.get e.guard=some true)(gD:e.op = .nextM x)
  (h:MN e s x=some l) (k:∀ s'∈l,Ev T (.ops r s') R):Ev T (.ops (e::r) s) R:=by
 unfold MN at h
 split at h
 ·rename_i v hx
  split at h
  ·rename_i m since seen hv
   split at h
   ·rename_i kk es hm
    split at h
    ·rename_i hs
     dsimp only at h
     refine .next hg gD hx hv hm hs (fun h0=>?_) fun i kv d hi xP=>?_
     ·rw[if_pos]at h
      ·cases h
       exact k _ (by simp)
      ·rw[cL,cP]
       intro i hi
       have:=h0 i (by simpa using hi)
       simpa using this
     ·have fq:=(af.1 hi).1
      rw[if_neg]at h
      ·cases h
       refine k _ (b8.2 ⟨i,aH.2 ⟨by simpa using fq,by simpa using xP⟩,?_⟩)
       simp only[hi]
      ·rw[cL,cP]
       intro h0
       have:=h0 i (by simpa using fq)
       simp at this
       exact xP this
    ·cases h
   ·cases h
  ·cases h
 ·cases h
theorem Dh(fM:pO T cl)(tA:Gs T rd):∀ (l:List eT) (s:St) (r:List St),tT T cl rd l s=some r→Ev T (.ops l s) (A3 r)
 | [],s,r,h=>by cases h;exact .nil ⟨s,by simp,rfl⟩
 | e::r,s,res,h=>by
  have go:∀ {l:List St},(qe l fun s'=>tT T cl rd r s')=some res→∀ s'∈l,Ev T (.ops r s') (A3 res):=fun hl s' fZ=>by
   obtain⟨y,hy,jP⟩:=uk hl s' fZ
   exact(Dh fM tA r s' y hy).mono fun _ hr=>hr.sub jP
  simp only[tT]at h
  split at h
  ·cases h
  ·rename_i hg;exact .off hg (Dh fM tA r _ _ h)
  ·rename_i hg
   split at h
   ·rename_i d δ ha;exact .op hg ha (Dh fM tA r _ _ h)
   ·split at h
    ·rename_i d δ ha;exact .yy hg ha (Dh fM tA r _ _ h)
    ·split at h
     ·rename_i x gD
      split at h
      ·rename_i l hl;exact afV hg gD hl (go h)
      ·cases h
     ·split at h
      ·rename_i v args hc
       split at h
       ·rename_i l hl;exact afW tA hg hc hl (go h)
       ·cases h
      ·split at h
       ·cases h
       ·rename_i hc
        split at h
        ·rename_i l hl;exact afU fM hg hl (go h)
        ·cases h
theorem yu(fM:pO T cl)(st:Bool):∀ (l:List eT) (s:St) (rs:List Rc) (s':St),u9 T cl st l s=some (rs,s')→Ev T (.trace l s) (fun r=>r = .tr rs s')
 | [],s,rs,s',h=>by cases h;exact .Dz rfl
 | e::r,s,rs,s',h=>by
  simp only[u9]at h
  split at h
  ·cases h
  ·rename_i hg
   split at h
   ·rename_i h1;cases h;exact .DA hg (yu fM st r _ _ _ h1) fun _ _ h=>by cases h;rfl
   ·cases h
  ·rename_i hg
   split at h
   ·rename_i d δ ha
    split at h
    ·rename_i h1;cases h;exact .DB hg ha (yu fM st r _ _ _ h1) fun _ _ h=>by cases h;rfl
    ·cases h
   ·split at h
    ·cases h
    ·rename_i f args hc
     split at h
     ·cases h
     ·rename_i fn hf
      split at h
      ·cases h
      ·rename_i uJ
       have qo:fn.full=false:=by
        simp only[cg,not_or]at uJ
        simpa using uJ.1
       split at h
       ·rename_i d iQ
        by_cases hr:(if fu args=true then closed d else flat d)=true
        ·rw[if_pos hr]at h
         split at h
         ·rename_i h1;cases h
          refine .Dw hg hc hf qo (fM _ _ _ _ iQ) (fun d' Hn hd=>?_) hr (yu fM st r _ _ _ h1) fun _ _ h=>by cases h;rfl
          have:=hd.val
          simp only[List.mem_singleton,dL]at this
          exact this
         ·cases h
        ·rw[if_neg hr]at h
         split at h
         ·rename_i g um gD
          split at h
          ·rename_i v l gV
           split at h
           ·rename_i iG
            simp only[ah,aq,decide_eq_true_eq]at iG
            obtain⟨⟨⟨c1,c2⟩,c3⟩,c4⟩:=iG
            split at h
            ·rename_i h1;cases h
             have pA:some (g,um.map (ev s.env.get))=some (f,args):=by rw[← hc,gD];rfl
             cases pA
             refine .Dy (v:=v) hg gD rfl hf qo (fun u hu=>?_) (by rw[gV];simp) c2 c3 (fM _ _ _ _ iQ) (fun d' Hn hd=>?_) c4 (yu fM st r _ _ _ h1) fun _ _ h=>by cases h;rfl
             ·rw[gV]at hu
              rcases au.1 hu with h|h
              ·exact h
              ·exact c1 u h
             ·have:=hd.val
              simp only[List.mem_singleton,dL]at this
              exact this
            ·cases h
           ·cases h
          ·cases h
         ·cases h
       ·rename_i d ob iQ
        split at h
        ·rename_i g um gD
         by_cases hr:(if fu args=true then lM d&&mO ob else nU d&&oi ob)=true
         ·rw[if_pos hr]at h
          split at h
          ·rename_i h1;cases h
           have pA:some (g,um.map (ev s.env.get))=some (f,args):=by rw[← hc,gD];rfl
           cases pA
           refine .Dx hg gD rfl hf qo (fM _ _ _ _ iQ) (fun d' Hn hd=>?_) hr (yu fM st r _ _ _ h1) fun _ _ h=>by cases h;rfl
           have:=hd.val
           simp only[List.mem_singleton,dL]at this
           exact this
          ·cases h
         ·rw[if_neg hr]at h;cases h
        ·cases h
       ·cases h
def ML(fM:pO T cl)(tA:Gs T rd){lp:Nat→List Nat→IR→St→Option (List Out)}(XP:∀ n live a s l,lp n live a s=some l→Ev T (.loop n live a s) (sY l)) :
  ∀ (c:IR) (s:St) (l:List Out),pL T cl lp rd c s=some l→Ev T (.code c s) (sY l):=by
 intro c
 induction c with
 | skip=>intro s l h;cases h;exact .skip ⟨_,by simp,rfl⟩
 | ops ops=>
  intro s l h
  simp only[pL]at h
  split at h
  ·rename_i l0 h1
   cases h
   refine .Bu ((Dh fM tA _ _ _ h1).mono fun r hr=>?_)
   obtain⟨s',fZ,rfl⟩:=hr
   exact⟨_,ao.2 ⟨s',fZ,rfl⟩,rfl⟩
  ·cases h
 | lF iH ops es=>intro s l h;simp[pL]at h
 | kr iH ops=>
  intro s l h
  simp only[pL]at h
  split at h
  ·rename_i rs s' h1
   split at h
   ·rename_i hp;cases h;exact .kr (yu fM _ _ _ _ _ h1) fun _ _ h=>by cases h;exact⟨hp,_,by simp,rfl⟩
   ·cases h
  ·split at h
   ·rename_i hm
    split at h
    ·rename_i rs s' h1
     split at h
     ·rename_i hp;cases h
      refine .BK (List.range s.H.length) ?_ (.kr (yu fM _ _ _ _ _ h1) fun _ _ h=>by cases h;exact⟨hp,_,by simp,rfl⟩)
      rw[cL]at hm
      rw[hm];rfl
     ·cases h
    ·cases h
   ·cases h
 | seq a b oL tE=>
  intro s l h
  simp only[pL]at h
  split at h
  ·rename_i l0 h1
   have hm:=uk h
   refine .seq (oL _ _ h1) (fun s' fZ=>?_) fun o ho eX=>?_
   ·obtain⟨y,hy,jP⟩:=hm _ fZ.out
    exact(tE _ _ hy).mono fun _ hr=>hr.sub jP
   ·obtain⟨y,hy,jP⟩:=hm _ ho.out
    cases o with
    | norm=>cases eX
    | exit id s'=>cases hy;exact⟨_,jP _ (by simp),rfl⟩
    | ret s'=>cases hy;exact⟨_,jP _ (by simp),rfl⟩
  ·cases h
 | cond c a b oL tE=>
  intro s o h
  simp only[pL]at h
  split at h
  ·rename_i hc;exact .cond (x:=true) hc (oL _ _ h)
  ·rename_i hc;exact .cond (x:=false) hc (tE _ _ h)
  ·cases h
 | block id live a oL=>
  intro s l h
  simp only[pL]at h
  split at h
  ·rename_i l0 h1
   cases h
   refine .block (oL _ _ h1) fun o ho=>⟨_,IN (fun _ _=>Vb) (ao.2 ⟨o,ho.out,rfl⟩),rfl⟩
  ·cases h
 | loop live a oL=>intro s o h;exact .loop (XP _ _ _ _ _ h)
 | l5 rf live x=>
  intro s l h
  simp only[pL]at h
  split at h
  ·cases h
  ·rename_i nR
   split at h
   ·rename_i f first cap hx
    split at h
    ·rename_i fn hf
     split at h
     ·rename_i uJ
      split at h
      ·rename_i l0 iQ
       have hm:=uk h
       refine .l5 (by simpa using nR) hx hf uJ (fM _ _ _ _ iQ) fun d H' hd=>?_
       obtain⟨y,hy,jP⟩:=hm _ hd.val
       dsimp only at hy
       split at hy
       ·rename_i Ss env st lT
        split at hy
        ·rename_i e;subst e
         split at hy
         ·rename_i o ho
          cases hy
          exact⟨env,st,o,lT,ho,_,jP _ (by simp),rfl⟩
         ·cases hy
        ·cases hy
       ·cases hy
      ·cases h
     ·cases h
    ·cases h
   ·cases h
 | exit id=>intro s o h;cases h;exact .exit ⟨_,by simp,rfl⟩
 | ret=>intro s o h;cases h;exact .ret ⟨_,by simp,rfl⟩
 | bad=>intro s o h;cases h
 | fz _ _=>intro s o h;cases h
 | sv _ _ _=>intro s o h;cases h
end
section
variable{T:gy}
def uf(T:gy)(M:sZ):Prop:=∀ p∈M,Ev T (.call p.1 p.2.1 []) (qE p.2.2)
def uf.nil(T:gy):uf T []:=fun p hp=>by cases hp
def uf.cons{T:gy}{f:FuncId}{args:List D}{l:List (D×U)}{M:sZ}(h:Ev T (.call f args []) (qE l))(t:uf T M):uf T ((f,args,l)::M):=fun p hp=>by
 rcases au.1 hp with rfl|hp
 ·exact h
 ·exact t p hp
def afw{M:sZ}(hM:uf T M){f:FuncId}{args:List D}{l:List (D×U)}(h:C8 M f args=some l):Ev T (.call f args []) (qE l):=by
 induction M with
 | nil=>cases h
 | cons p M ih=>
  obtain⟨g,um,l'⟩:=p
  have vP:uf T M:=fun q hq=>hM q (by simp[hq])
  simp only[C8]at h
  split at h
  ·rename_i hg
   split at h
   ·rename_i ha
    cases h
    have:=hM (g,um,l) (by simp)
    rw[uB ha,cS hg]at this
    exact this
   ·exact ih vP h
  ·exact ih vP h
theorem SN{M:sZ}(hM:uf T M):∀ k:Nat,(∀ n live a s l,yq T M k n live a s=some l→Ev T (.loop n live a s) (sY l))∧Gs T (Am T M k)∧pO T (run T M k)
 | 0=>⟨fun _ _ _ _ _ h=>by simp[yq]at h,fun _ _ _ h=>by simp[Am]at h,fun _ _ _ _ h=>by simp[run]at h⟩
 | k+1=>by
  obtain⟨i1,i2,i3⟩:=SN hM k
  refine⟨fun n live a s l h=>?_,fun c s l h=>?_,fun f args H l h=>?_⟩
  ·simp only[yq]at h
   split at h
   ·rename_i l0 h1
    have hm:=uk h
    refine .wj (ML i3 i2 i1 _ _ _ h1) (fun s' fZ=>?_) fun o ho eX=>?_
    ·obtain⟨y,hy,jP⟩:=hm _ fZ.out
     exact(i1 _ _ _ _ _ hy).mono fun _ hr=>hr.sub jP
    ·obtain⟨y,hy,jP⟩:=hm _ ho.out
     cases o with
     | norm=>cases eX
     | exit id s'=>cases hy;exact⟨_,jP _ (by simp),rfl⟩
     | ret s'=>cases hy;exact⟨_,jP _ (by simp),rfl⟩
   ·cases h
  ·simp only[Am]at h
   exact ML i3 i2 i1 _ _ _ h
  ·simp only[run]at h
   split at h
   ·rename_i l0 hk
    cases h
    cases H with
    | nil=>exact afw hM hk
    | cons=>cases hk
   split at h
   ·cases h
   ·rename_i fn hf
    split at h
    ·rename_i hl
     split at h
     ·rename_i l0 h1
      split at h
      ·rename_i ps h2
       cases h
       have hm:=uk h2
       refine .call fn.own hf hl (ML i3 i2 i1 _ _ _ h1) fun o ho=>?_
       obtain⟨y,hy,jP⟩:=hm _ ho.out
       split at hy
       ·rename_i p hp
        cases hy
        exact⟨p.1,p.2,hp,p,IN (fun _ _=>Vc) (jP _ (by simp)),rfl⟩
       ·cases hy
      ·cases h
     ·cases h
    ·cases h
def yv{M:sZ}(hM:uf T M){k:Nat}{f:FuncId}{args:List D}{H:U}{l:List (D×U)}(h:run T M k f args H=some l):Ev T (.call f args H) (qE l):=(SN hM k).2.2 f args H l h
end
end Go.AL
namespace Go.AL
open Go
@[reducible] def o(k:Nat)(op:gP):eT:={ dst:=some k,op:=op,guard:=none }
@[reducible] def u(op:gP):eT:={ dst:=none,op:=op,guard:=none }
@[reducible] def og(j:Nat)(b:Bool)(k:Nat)(op:gP):eT:={ dst:=some k,op:=op,guard:=some (j,b) }
@[reducible] def ug(j:Nat)(b:Bool)(op:gP):eT:={ dst:=none,op:=op,guard:=some (j,b) }
@[reducible] def M(k j:Nat):eT:=o k (.mv (.t j))
@[reducible] def L(k j:Nat):eT:=o k (.ld1 (.t j))
@[reducible] def N(k n j:Nat):eT:=o k (.ldN n (.t j))
@[reducible] def F(k i j:Nat):eT:=o k (.fieldA i (.t j))
@[reducible] def A(k:Nat)(p:BinOp)(j:Nat)(n:Int):eT:=o k (.arith p (.t j) (.c (.i n)))
@[reducible] def B(k:Nat)(p:BinOp)(i j:Nat):eT:=o k (.arith p (.t i) (.t j))
@[reducible] def I(k n i j:Nat):eT:=o k (.idxA n (.t i) (.t j))
@[reducible] def cq(k:Nat)(n:Int):eT:=o k (.mv (.c (.i n)))
@[reducible] def sq(n i j:Nat):eT:=u (.stN n (.t i) (.t j))
@[reducible] def xq(k t j:Nat):eT:=o k (.box t (.t j))
@[reducible] def zq(k j:Nat):eT:=o k (.len .slice (.t j))
@[reducible] def pq(k a b:Nat):eT:=o k (.pick (.t a) (.c (.b true)) (.t b))
@[reducible] def rq(k a b:Nat):eT:=o k (.pick (.t a) (.t b) (.c (.b false)))
@[reducible] def kq(k f j:Nat):eT:=o k (.call f [.t j])
@[reducible] def G(i:Nat)(b:Bool)(k j:Nat):eT:=og i b k (.mv (.t j))
@[reducible] def Pz(i:Nat)(b:Bool)(k j:Nat):eT:=og i b k (.ld1 (.t j))
@[reducible] def Px(i:Nat)(b:Bool)(k n j:Nat):eT:=og i b k (.fieldA n (.t j))
@[reducible] def Pv(i:Nat)(b:Bool)(k:Nat)(p:BinOp)(j:Nat)(n:Int):eT:=og i b k (.arith p (.t j) (.c (.i n)))
@[reducible] def Pw(i:Nat)(b:Bool)(k:Nat)(p:BinOp)(j n:Nat):eT:=og i b k (.arith p (.t j) (.t n))
@[reducible] def nE(k:Nat):eT:=o k (.mv (.c .eG))
@[reducible] def nF(k:Nat):eT:=o k (.mv (.c (.b false)))
@[reducible] def nT(k:Nat):eT:=o k (.mv (.c (.b true)))
@[reducible] def Q(l:List eT)(b:IR):IR:=.seq (.ops l) b
@[reducible] def cx(n k:Nat):IR:=.cond (.t n) .skip (.exit k)
@[reducible] def fw(k:Nat)(f:Nat)(a0 a1:Nat):eT:=o k (.call f [.t a0,.t a1])
@[reducible] def Tk(j:Nat)(b:Bool)(k:Nat)(f:Nat)(a0 a1:Nat):eT:=og j b k (.call f [.t a0,.t a1])
@[reducible] def lO(k:Nat)(f:Nat)(a0 a1 a2:Nat):eT:=o k (.call f [.t a0,.t a1,.t a2])
@[reducible] def agR(j:Nat)(b:Bool)(k:Nat)(f:Nat)(a0 a1 a2:Nat):eT:=og j b k (.call f [.t a0,.t a1,.t a2])
@[reducible] def iW(k:Nat)(f:Nat)(a0 a1 a2 a3:Nat):eT:=o k (.call f [.t a0,.t a1,.t a2,.t a3])
@[reducible] def nA(k:Nat)(f:Nat)(a0 a1 a2 a3 a4:Nat):eT:=o k (.call f [.t a0,.t a1,.t a2,.t a3,.t a4])
@[reducible] def wcf(k:Nat)(f:Nat)(a0 a1 a2 a3 a4 a5:Nat):eT:=o k (.call f [.t a0,.t a1,.t a2,.t a3,.t a4,.t a5])
@[reducible] def Ti(j:Nat)(b:Bool)(k:Nat)(f a:Nat):eT:=og j b k (.call f [.t a])
@[reducible] def gF(k:Nat)(t n m a c:Nat):eT:=o k (.app t n m (.t a) (.t c))
@[reducible] def oP(k:Nat)(s n a c:Nat):eT:=o k (.idxArr s n (.t a) (.t c))
@[reducible] def jT(k:Nat)(s n a:Nat)(c:Int):eT:=o k (.idxArr s n (.t a) (.c (.i c)))
@[reducible] def iq(k:Nat)(a:Nat):eT:=o k (.un .not (.t a))
@[reducible] def mW(k:Nat)(a:Nat):eT:=o k (.nilck (.t a))
@[reducible] def rZ(k:Nat)(f a:Nat):eT:=o k (.callv (.t f) [.t a])
@[reducible] def tZ(k:Nat)(f a c:Nat):eT:=o k (.callv (.t f) [.t a,.t c])
@[reducible] def gb(k:Nat)(a i:Nat):eT:=o k (.ext (.t a) i)
@[reducible] def jt(k:Nat)(c:IntKind)(a:Nat):eT:=o k (.conv c (.t a))
@[reducible] def kL(k:Nat)(p:BinOp)(a:Nat)(q:IntKind)(c:Int):eT:=o k (.arith p (.t a) (.c (.val (.int q c))))
@[reducible] def kh(k:Nat)(p:BinOp)(c:Int)(a:Nat):eT:=o k (.arith p (.c (.i c)) (.t a))
@[reducible] def agT(j:Nat)(b:Bool)(k:Nat)(s n a c:Nat):eT:=og j b k (.idxArr s n (.t a) (.t c))
@[reducible] def Tl(j:Nat)(b:Bool)(k:Nat)(s n a:Nat)(c:Int):eT:=og j b k (.idxArr s n (.t a) (.c (.i c)))
@[reducible] def Tq(j:Nat)(b:Bool)(k:Nat)(a:Nat):eT:=og j b k (.un .not (.t a))
@[reducible] def agV(j:Nat)(b:Bool)(k:Nat)(a:Nat):eT:=og j b k (.nilck (.t a))
@[reducible] def agW(j:Nat)(b:Bool)(k:Nat)(f a:Nat):eT:=og j b k (.callv (.t f) [.t a])
@[reducible] def agY(j:Nat)(b:Bool)(k:Nat)(f a c:Nat):eT:=og j b k (.callv (.t f) [.t a,.t c])
@[reducible] def To(j:Nat)(b:Bool)(k:Nat)(n a c:Nat):eT:=og j b k (.idxA n (.t a) (.t c))
@[reducible] def Tr(j:Nat)(b:Bool)(k:Nat)(a:Nat):eT:=og j b k (.len .slice (.t a))
@[reducible] def Tp(j:Nat)(b:Bool)(k:Nat)(n a:Nat):eT:=og j b k (.ldN n (.t a))
@[reducible] def gp(a c:Nat):eT:=u (.st1 (.t a) (.t c))
@[reducible] def fL(a b c:Nat):IR:=.ops [M a b,A c .add a 1,M b c]
@[reducible] def iC(a b:Nat):IR:=.ops [A a .add b 1,M b a]
@[reducible] def wG(a b c:Nat):IR:=.ops [M a b,A c .sub a 1,M b c]
@[reducible] def iD(a b c e f g h:Nat):IR:=Q [M a b,M c e,zq f c,B g .lss a f] (cx g h)
@[reducible] def sS(a b c e f g:Nat):IR:=Q [M a b,M c e,B f .lss a c] (cx f g)
@[reducible] def p8(a b c i e f g h l:Nat):IR:=Q [M a b,F c i e,L f c,zq g f,B h .lss a g] (cx h l)
@[reducible] def fj(n:Nat)(l:List eT):IR:=.cond (.t n) (Q l .ret) .skip
@[reducible] def ja(n:Nat)(l:List eT):IR:=.cond (.t n) (.ops l) .skip
@[reducible] def qD(n k:Nat):IR:=.cond (.t n) (.exit k) .skip
@[reducible] def fX(n:Nat)(a b:IR):IR:=.cond (.t n) a b
@[reducible] def gh(l:List eT)(b:IR):IR:=.seq (.kr [] l) b
@[reducible] def mN(l:List eT):IR:=.kr [] l
@[reducible] def wk(n:Int):X:=.c (.i n)
@[reducible] def wk8(n:Int):X:=.c (.val (.int .u8 n))
@[reducible] def fo(k t:Nat)(z:List D):eT:=o k (.alloc t z)
@[reducible] def ki(k t s:Nat)(z:List D)(n:Nat)(ps:List (Nat×X)):eT:=o k (.buildSl t s z n ps)
@[reducible] def fC(k:Nat)(z:List D)(ps:List (Nat×Nat×X)):eT:=o k (.build z ps)
@[reducible] def gI(k t s:Nat)(z:List D)(a:Nat):eT:=ki k t s z 1 [(0,.t a)]
@[reducible] def vd(k t s:Nat)(z:List D)(a c:Nat):eT:=ki k t s z 2 [(0,.t a),(1,.t c)]
@[reducible] def jn(k t s:Nat)(z:List D):eT:=ki k t s z 0 []
@[reducible] def fy(a b c:Nat):Nat×Nat×X:=(a,b,.t c)
@[reducible] def fR(a c:Nat):Nat×X:=(a,.t c)
@[reducible] def pN(f:Nat):X:=.c (.fn (.func f) [] [])
@[reducible] def wS(a b:IR):IR:=.seq a b
@[reducible] def wK(i:Nat)(l:List Nat)(a:IR):IR:=.block i l a
@[reducible] def wP(l:List Nat)(a:IR):IR:=.loop l a
@[reducible] def wD(p:List (Nat×Nat))(l:List eT):IR:=.kr p l
@[reducible] def wO(l:List eT):IR:=.ops l
@[reducible] def iu  : D:=.val (.string ⟨#[]⟩)
@[reducible] def eV(i:Nat)(k j:Nat):eT:=G i true k j
@[reducible] def fr(i:Nat)(k j:Nat):eT:=G i false k j
@[reducible] def fY(i:Nat)(k j:Nat):eT:=Pz i true k j
@[reducible] def gf(i:Nat)(k j:Nat):eT:=Pz i false k j
@[reducible] def gj(i:Nat)(k n j:Nat):eT:=Px i true k n j
@[reducible] def gO(i:Nat)(k n j:Nat):eT:=Px i false k n j
@[reducible] def gG(i:Nat)(k:Nat)(p:BinOp)(j:Nat)(n:Int):eT:=Pv i true k p j n
@[reducible] def iB(i:Nat)(k:Nat)(p:BinOp)(j:Nat)(n:Int):eT:=Pv i false k p j n
@[reducible] def jz(i:Nat)(k:Nat)(p:BinOp)(j n:Nat):eT:=Pw i true k p j n
@[reducible] def kj(i:Nat)(k:Nat)(p:BinOp)(j n:Nat):eT:=Pw i false k p j n
@[reducible] def rj(i:Nat)(k:Nat)(f:Nat)(a0 a1:Nat):eT:=Tk i true k f a0 a1
@[reducible] def ve(i:Nat)(k:Nat)(f:Nat)(a0 a1:Nat):eT:=Tk i false k f a0 a1
@[reducible] def agS(i:Nat)(k:Nat)(f:Nat)(a0 a1 a2:Nat):eT:=agR i true k f a0 a1 a2
@[reducible] def Tj(i:Nat)(k:Nat)(f a:Nat):eT:=Ti i true k f a
@[reducible] def Jx(i:Nat)(k:Nat)(f a:Nat):eT:=Ti i false k f a
@[reducible] def agU(i:Nat)(k:Nat)(s n a c:Nat):eT:=agT i false k s n a c
@[reducible] def Tn(i:Nat)(k:Nat)(s n a:Nat)(c:Int):eT:=Tl i true k s n a c
@[reducible] def Tm(i:Nat)(k:Nat)(s n a:Nat)(c:Int):eT:=Tl i false k s n a c
@[reducible] def sR(i:Nat)(k:Nat)(a:Nat):eT:=Tq i true k a
@[reducible] def vf(i:Nat)(k:Nat)(a:Nat):eT:=Tq i false k a
@[reducible] def Nb(i:Nat)(k:Nat)(a:Nat):eT:=agV i true k a
@[reducible] def agX(i:Nat)(k:Nat)(f a:Nat):eT:=agW i true k f a
@[reducible] def DH(i:Nat)(k:Nat)(f a c:Nat):eT:=agY i true k f a c
@[reducible] def jj(i:Nat)(k:Nat)(n a c:Nat):eT:=To i true k n a c
@[reducible] def l7(i:Nat)(k:Nat)(n a c:Nat):eT:=To i false k n a c
@[reducible] def yF(i:Nat)(k:Nat)(a:Nat):eT:=Tr i true k a
@[reducible] def l8(i:Nat)(k:Nat)(a:Nat):eT:=Tr i false k a
@[reducible] def mn(i:Nat)(k:Nat)(n a:Nat):eT:=Tp i true k n a
@[reducible] def yE(i:Nat)(k:Nat)(n a:Nat):eT:=Tp i false k n a
@[reducible] def wL(n:Nat)(l:List Nat)(h b s:IR):IR:=.loop l (.seq h (.seq (.block n l b) s))
@[simp,reducible] def km:List D:=[.eG,.eG,.eG,(.i 0),(.i 0),(.i 0),(.i 0),(.b false)]
@[simp,reducible] def jF:List D:=[.eG,.eG,.eG,(.i 0),(.i 0)]
@[simp,reducible] def ua:List D:=[(.i 0),.eG,.eG,.eG,(.i 0),(.b false),.eG,(.i 0),(.i 0)]
@[simp,reducible] def fJ:List D:=[(.i 0),(.i 0)]
@[simp,reducible] def vg:List D:=[(.i 0),(.i 0),(.b false)]
@[simp,reducible] def Nh:List D:=[(.i 0),.eG,.eG,.eG,(.i 0),(.b false),.eG,(.i 0),(.i 0),.eG,.eG,.eG,(.i 0),(.i 0),.eG,(.b false)]
@[simp,reducible] def oQ:List D:=[.eG,(.i 0),(.i 0)]
@[simp,reducible] def r7:List D:=[.eG,.eG,.eG,(.i 0),(.i 0),(.b false)]
@[simp,reducible] def il:List D:=[(.i 0)]
@[simp,reducible] def kM:List D:=[.eG]
@[reducible] def iI(n:Nat)(b:IR)(k:Nat):eI:=.mk n b [.tmp k] false 0 true
@[simp] theorem aru{n:Nat}{b:IR}{k:Nat}:(iI n b k).ntmps=n:=rfl
@[simp] theorem arp{n:Nat}{b:IR}{k:Nat}:(iI n b k).body=b:=rfl
@[simp] theorem arw{n:Nat}{b:IR}{k:Nat}:(iI n b k).results = [.tmp k]:=rfl
@[simp] theorem arv{n:Nat}{b:IR}{k:Nat}:(iI n b k).own=0:=rfl
@[reducible] def fF(n:Nat)(b:IR)(k:Nat):eI:=.mk n b [.tmp k] false 0 false
@[simp] theorem ari{n:Nat}{b:IR}{k:Nat}:(fF n b k).body=b:=rfl
@[simp] theorem aro{n:Nat}{b:IR}{k:Nat}:(fF n b k).results = [.tmp k]:=rfl
@[simp] theorem arn{n:Nat}{b:IR}{k:Nat}:(fF n b k).own=0:=rfl
@[reducible] def l9(n:Nat)(b:IR)(k i:Nat):eI:=.mk n b [.qG k i] false 0 true
@[simp] theorem ard{n:Nat}{b:IR}{k i:Nat}:(l9 n b k i).ntmps=n:=rfl
@[simp] theorem ara{n:Nat}{b:IR}{k i:Nat}:(l9 n b k i).body=b:=rfl
@[simp] theorem arh{n:Nat}{b:IR}{k i:Nat}:(l9 n b k i).results = [.qG k i]:=rfl
@[simp] theorem arf{n:Nat}{b:IR}{k i:Nat}:(l9 n b k i).own=0:=rfl
@[reducible] def sT(n:Nat)(b:IR)(k i:Nat):eI:=.mk n b [.qG k i] false 0 false
@[simp] theorem aq4{n:Nat}{b:IR}{k i:Nat}:(sT n b k i).body=b:=rfl
@[simp] theorem aq9{n:Nat}{b:IR}{k i:Nat}:(sT n b k i).results = [.qG k i]:=rfl
@[simp] theorem aq8{n:Nat}{b:IR}{k i:Nat}:(sT n b k i).own=0:=rfl
def nth:List (Option eI)→Nat→Option eI
 | [],_=>none
 | a::_,0=>a
 | _::l,n+1=>nth l n
def assoc:List (Nat×oT)→Nat→Option oT
 | [],_=>none
 | (k,R)::l,n=>if k=n then some R else assoc l n
def elem(f:Nat):List Nat→Bool
 | []=>false
 | a::l=>if a=f then true else elem f l
def JI(fn:Func):Code:=fn.body.getD .skip
def I4(P:Program)(rf:Nat):Array Tmp:=match wB P rf with
 | some (_,ps,_,_)=>ps
 | none=>#[]
def I1(P:Program)(rf:Nat):Code:=match wB P rf with
 | some (_,_,a,_)=>a
 | none=>.skip
def I2(P:Program)(rf:Nat):Code:=match wB P rf with
 | some (_,_,_,b)=>b
 | none=>.skip
section
variable{P:Program}{G:GT}
def V'{f:FuncId}{fn:eI}{func:Func}{code:Code}{hs fZ:List (List Nat)}(h1:P.funcs[f]? = some func)(h2:func.body=some code)(h3:qj P f=true)(h4:(nq code).length≤64)
  (h5:cC P G fn.ntmps (64*f) hs code=some (fn.body,fZ)) (h6:func.ntmps=fn.ntmps) (h7:w6 P func.results.toList=some fn.results):A1 P G f fn:=⟨⟨func,code,hs,fZ,h1,h2,h3,h4,h5,h6,h7⟩⟩
def I3{rf:Nat}{R:oT}{N:Nat}{ps:Array Tmp}{ac bc:Code}(ha hb:List (List Nat))(h1:G.rt rf=some (N,ps,ac,bc))(h2:ps.toList=R.params)(h3:(R.params.all fun p=>decide (p<N))=true)
  (h4:nq ac = []∧nq bc = []) (h5:cC P G N 0 ha ac=some (R.a,[])) (h6:cC P G N 0 hb bc=some (R.b,[])):vr P G rf R:=
 ⟨⟨N,ps,ac,bc,h1,h2,h3,JP (fun i x hx=>by rw[h4.1]at hx;cases hx) h5,JP (fun i x hx=>by rw[h4.2]at hx;cases hx) h6⟩⟩
inductive uc(P:Program)(G:GT):Nat→List (Option eI)→Prop
 | nil (k:Nat):uc P G k []
 | has {k:Nat} {fn:eI} {l:List (Option eI)} (h:A1 P G k fn) (t:uc P G (k+1) l):uc P G k (some fn::l)
 | no {k:Nat} {l:List (Option eI)} (t:uc P G (k+1) l):uc P G k (none::l)
inductive wX(P:Program)(G:GT):List (Nat×oT)→Prop
 | nil:wX P G []
 | cons {k:Nat} {R:oT} {l:List (Nat×oT)} (h:vr P G k R) (t:wX P G l):wX P G ((k,R)::l)
def uc.get:∀ {l:List (Option eI)} {k:Nat},uc P G k l→∀ (i:Nat) (fn:eI),nth l i=some fn→A1 P G (k+i) fn:=by
 intro l k h
 induction h with
 | nil=>intro i fn hi;cases hi
 | has h t ih=>
  intro i fn hi
  cases i with
  | zero=>cases hi;exact h
  | succ i=>
   have:=ih i fn hi
   rwa [a7,cK 1 i]at this
 | no t ih=>
  intro i fn hi
  cases i with
  | zero=>cases hi
  | succ i=>
   have:=ih i fn hi
   rwa [a7,cK 1 i]at this
def wX.get{l:List (Nat×oT)}(h:wX P G l):∀ (i:Nat) (R:oT),assoc l i=some R→vr P G i R:=by
 induction h with
 | nil=>intro i R hi;cases hi
 | @cons k R0 l h t ih=>
  intro i R hi
  simp only[assoc]at hi
  split at hi
  ·rename_i e;subst e;cases hi;exact h
  ·exact ih i R hi
def agI{l:List (Option eI)}{r:List (Nat×oT)}{so:FuncId→Option Nat}(zT:G.rt=wB P)(h:uc P G 0 l)(h2:wX P G r){si:FuncId→Bool}(h3:∀ f sz,so f=some sz→uj P f sz)(h4:∀ f,si f=true→wY P f):JB P G { fn:=nth l,round:=assoc r,sort:=so,qB:=si } where
 sort:=h3
 qB:=h4
 rt:=zT
 fn f fn hf:=by
  have:=h.get f fn hf
  rwa [aU]at this
 round:=h2.get
