/- Part 6 of the proof of skewer.skewerlaw15.TableAgain. -/
import Derived.Test.YtnaefnajkaohgaaGreatDoorD05
import Derived.Test.YtnaefnajkaohgaaGreatDoorD04
import Derived.KernelRfl
set_option linter.all false
namespace Go.AL
open Go
def CC(P:Program)(G:GT)(g:FuncId)(args:List D)(d:D)(Hn:U):Prop:=oL P g=true∧sV P G g args [] d Hn
def outs(R:ml→Prop):Out→Prop:=fun o=>R (.out o)
def ye(R:ml→Prop):D→U→Prop:=fun d H=>R (.val d H)
def Good(P:Program)(G:GT):uD→(ml→Prop)→Prop
 | .ops l s,R=>∀ (N:Nat) (A:Array Oper) (ops:List Oper),mo P G N A ops=some l →
   ∀ (ro:Option Nat) (n:Nat) (Q:Exit→Act→World→Prop) (c:Ctx) (w:World) (a:Act),(s.fL=false→ro=none)→ji G N c w s a→rH G N s.H.length s.fL c s.H w (outs R) Q→wpListIn (FW ro) n P A Q ops a w
 | .code ir s,R=>∀ (N:Nat) (code:Code),lh P G N ir code →
   ∀ (ro:Option Nat) (n:Nat) (Q:Exit→Act→World→Prop) (c:Ctx) (w:World) (a:Act),(s.fL=false→ro=none)→ji G N c w s a→rH G N s.H.length s.fL c s.H w (outs R) Q→code.wpIn (FW ro) n P Q a w
 | .loop n0 _ ir s,R=>n0≤s.H.length→∀ (N:Nat) (code:Code),lh P G N ir code →
   ∀ (ro:Option Nat) (n:Nat) (Q:Exit→Act→World→Prop) (c:Ctx) (w:World) (a:Act),(s.fL=false→ro=none)→ji G N c w s a→rH G N n0 s.fL c s.H w (outs R) Q→Dx (FW ro) n P code Q a w
 | .call f args H,R=>qH P G f args H (ye R)
 | .trace l s,R=>∃ rs s',R (.tr rs s')∧s.H.length≤s'.H.length∧s'.marks=s.marks∧s'.fL=s.fL∧∀ (K k0:Nat),s'.H.length≤K→∃ items:List kI,items.map (·.e)=l∧items.map (·.rc)=rs∧items.map (·.k)=List.range' k0 l.length ∧
   Tx (CC P G) s.env.get (s.H++room (K-s.H.length)) items s'.env.get (s'.H++room (K-s'.H.length))
section
variable{P:Program}{G:GT}{T:gb}
theorem rH.mono{N n m:Nat}{fL:Bool}{c c1:Ctx}{H H1:U}{w w1:World}{R:Out→Prop}{Q:Exit→Act→World→Prop}(h:rH G N n fL c H w R Q)(hs:Step n c H w c1 H1 w1)(hm:n≤m):rH G N m fL c1 H1 w1 R Q:=
 fun o c' w' a' hR hr hl eR eX=>h o c' w' a' hR hr (Nat.le_trans hm hl) eR (hs.trans eX hm)
theorem za{N:Nat}{A:Array Oper}{o:Oper}{r:List Oper}{l:List fo}(h:mo P G N A (o::r)=some l) :
  ∃ e l',l=e::l'∧qT P G N A o=some e∧mo P G N A r=some l':=by
 simp only[mo]at h
 split at h
 ·rename_i e l' he hl
  cases h
  exact⟨e,l',rfl,he,hl⟩
 ·cases h
theorem RV{N:Nat}{A:Array Oper}{ops:List Oper}(h:mo P G N A ops=some []):ops = []:=by
 cases ops with
 | nil=>rfl
 | cons o r=>
  obtain⟨e,l',h1,_⟩:=za h
  cases h1
theorem Mi{N:Nat}{A:Array Oper}:∀ {l es:List fo} {ops:List Oper},mo P G N A ops=some (l++es)→∃ o1 o2,ops=o1++o2∧mo P G N A o1=some l∧mo P G N A o2=some es
 | [],es,ops,h=>⟨[],ops,rfl,rfl,h⟩
 | e::l,es,ops,h=>by
  cases ops with
  | nil=>cases h
  | cons o r=>
   obtain⟨e',l',h1,h2,h3⟩:=za h
   cases h1
   obtain⟨o1,o2,rfl,h4,h5⟩:=Mi h3
   exact⟨o::o1,o2,rfl,by simp only[mo,h2,h4],h5⟩
theorem Mj{N:Nat}{A:Array Oper}:∀ {ops:List Oper} {l:List fo},mo P G N A ops=some l→ops.length=l.length∧∀ (i:Nat) (o:Oper) (e:fo),ops[i]? = some o→l[i]? = some e→qT P G N A o=some e:=by
 intro ops
 induction ops with
 | nil=>intro l h;cases h;exact⟨rfl,fun i o e h=>by simp at h⟩
 | cons o r Je=>
  intro l h
  obtain⟨e,l',rfl,h1,h2⟩:=za h
  obtain⟨q1,q2⟩:=Je h2
  refine⟨by simp[q1],fun i o' e' ho he=>?_⟩
  cases i with
  | zero=>simp at ho he;subst ho;subst he;exact h1
  | succ i=>exact q2 i o' e' (by simpa using ho) (by simpa using he)
theorem uR{N:Nat}{A:Array Oper}{ops:List Oper}{e:fo}{l:List fo}(h:mo P G N A ops=some (e::l)) :
  ∃ o r,ops=o::r∧qT P G N A o=some e∧mo P G N A r=some l:=by
 cases ops with
 | nil=>cases h
 | cons o r=>
  obtain⟨e',l',h1,h2,h3⟩:=za h
  cases h1
  exact⟨o,r,rfl,h2,h3⟩
theorem QH{N:Nat}{c:Ctx}{w:World}{s:St}{a:Act}{ro:Option Nat}{n:Nat}{o:Oper}{io:gp}{f:FuncId}{args:List D}{next:Act→World→Prop}{Q:Exit→Act→World→Prop}(hs:ji G N c w s a)(hc:kV P G o=some io)
  (hd:o5 N o.dst=true) (iq:iM s.env.get io=some (f,args)) (jG:oL P f=true) {R:D→U→Prop}
  (il:∀ vs:List Value,gY c w vs args→Calls P f vs.toArray w fun e w'=>∃ v c' d H',e = .returned v∧R d H'∧e9 G c' H' w'∧eP c' w' v d∧Step s.H.length c s.H w c' H' w')
  (k:∀ d H' c' w' a',R d H'→ji G N c' w' { s with env:=put s.env o.dst d,H:=H' } a'→Step s.H.length c s.H w c' H' w'→next a' w'):o.wpIn (FW ro) n P a w next Q:=by
 obtain⟨vs,gK,gT⟩:=Gd hs.eR hs.env hc iq jG
 refine⟨fun _ _=>trivial,?_⟩
 rw[Oper.semAt_plain (FW ro) a.eval o (vO hc),gK]
 refine⟨fun h=>by simp[Fence.wide]at h,yV.2 ((il vs gT).mono ?_)⟩
 rintro e w' ⟨v,c',d,H',rfl,hR,eR,hr,eX⟩
 exact k d H' c' w' _ hR (hs.next eR eX hd hr) eX
theorem QQ{s s1:St}{dst:Option Nat}{args:List D}{r:D}{Hn:U}(h:after s dst args r Hn=some s1) :
  (if fm args then kE r&&Hn.all lG else mD r&&Hn.all mJ)=true∧s1 = { s with env:=put s.env dst (iO s.H.length r),H:=s.H++Hn }:=by
 unfold after at h
 generalize (if fm args=true then kE r&&Hn.all lG else mD r&&Hn.all mJ)=b at h
 cases b
 ·cases h
 ·cases h;exact⟨rfl,rfl⟩
theorem Px{P:Program}{G:GT}{o:Oper}{io:gp}(hc:kV P G o=some io):Gr io=false:=by
 unfold kV at hc
 split at hc
 all_goals try simp only[ax,af,aF]at hc
 all_goals (repeat' first|(obtain⟨_,_,hc⟩:=hc)|split at hc|simp only[af]at hc)
 all_goals first|rfl|(cases hc;done)|(cases hc;rfl)|(split<;>rfl)
theorem abv{P:Program}{G:GT}{o:Oper}{x:X}(hc:kV P G o=some (.nextM x)):False:=by
 have:=Px hc
 cases this
theorem abw{P:Program}{G:GT}{o:Oper}{io:gp}(hc:kV P G o=some io){f:fD}{H:U}{n:Nat}{r:D×Dl}(h:kG f H n io=some r):False:=by
 have:=Px hc
 cases io<;>first|(cases h;done)|(cases this;done)
theorem abR{fn:eQ}(s:St)(ms:List Nat):AL.results fn { s with marks:=ms }=AL.results fn s:=by
 have h1:∀ x,xV { s with marks:=ms } x=xV s x:=fun x=>by cases x<;>rfl
 have h2:∀ l,pV { s with marks:=ms } l=pV s l:=by
  intro l
  induction l with
  | nil=>rfl
  | cons x r ih=>simp only[pV,h1,ih]
 simp only[AL.results,h2]
theorem Tc(hM:P.follows .mixedOrders=true)(hT:GJ P G T){j:uD}{R:ml→Prop}(h:Ev T j R):Good P G j R:=by
 induction h with
 | @mono j R R' h hi ih=>
  cases j with
  | ops l s=>exact fun N A ops hc ro n Q c w a gG hs hk=>ih N A ops hc ro n Q c w a gG hs fun o c' w' a' hR=>hk o c' w' a' (hi _ hR)
  | code ir s=>exact fun N code hc ro n Q c w a gG hs hk=>ih N code hc ro n Q c w a gG hs fun o c' w' a' hR=>hk o c' w' a' (hi _ hR)
  | loop n0 live ir s=>exact fun hn N code hc ro n Q c w a gG hs hk=>ih hn N code hc ro n Q c w a gG hs fun o c' w' a' hR=>hk o c' w' a' (hi _ hR)
  | call f args H=>exact fun c w vs h1 h2=>(ih c w vs h1 h2).mono fun _ _ ⟨v,c',d,H',he,hR,r⟩=>⟨v,c',d,H',he,hi _ hR,r⟩
  | trace l s=>
   obtain⟨rs,s',h1,h2⟩:=ih
   exact⟨rs,s',hi _ h1,h2⟩
 | @sort f g fn sz v gen t H R α fc l cf hs hg hl fE h0 tD xA tr nt hc hv k qt=>
  obtain⟨func,code,h1,h2,t1,t2,t3,_⟩:=(hT.fn g fn hg).ex
  exact acJ (hT.sort f sz hs) t3 fc l hl fE h0 tD cf xA tr nt (fun x hx y hy c w vs h1 h2=>(qt x hx y hy c w vs h1 h2).mono fun _ _ ⟨v,c',d,H',he,hR,r⟩=>⟨v,c',d,H',he,by obtain⟨_,e⟩:=hR;cases e;rfl,r⟩) hv k
 | @x5 f sz x H R hs k=>exact acI (hT.sort f sz hs) (f:=f) (g:=0) k
 | @pA f v gen t H R l hs h0 tD hv k=>exact acL (hT.pA f hs) l h0 tD hv k
 | @nil s R h=>
  intro N A ops hc ro n Q c w a gG hs hk
  rw[RV hc]
  exact hk _ c w a h rfl (Nat.le_refl _) hs (Step.refl _ _ _ _)
 | @op e r s d δ R hg h t ih=>
  have hle:s.H.length≤(δ.app s.H (Al.last s.H)).length:=GN δ s.H
  intro N A ops hc ro n Q c w a gG hs hk
  obtain⟨o,r',rfl,ho,k9⟩:=uR hc
  obtain⟨s1,s2,s3,s4⟩:=tq ho
  have hw:=pY hs.env s4 hg
  simp only[wpListIn,hw,if_true]
  have s1:=Md s1 h
  refine ada hs s1 s3 (kH.last s.H) h fun c' w' a' fH eX=>?_
  rw[← s2]at fH
  exact ih N A r' k9 ro n Q c' w' a' gG fH (hk.mono eX hle)
 | @v8 e r s d δ R hg h t ih=>
  have hle:s.H.length≤(δ.app s.H (Al.last s.H)).length:=GN δ s.H
  intro N A ops hc ro n Q c w a gG hs hk
  obtain⟨o,r',rfl,ho,k9⟩:=uR hc
  obtain⟨s1,s2,s3,s4⟩:=tq ho
  have hw:=pY hs.env s4 hg
  simp only[wpListIn,hw,if_true]
  have s1:=s1.resolve_left fun h2=>abw h2 h
  refine ade hs s1 s3 (kH.last s.H) h fun c' w' a' fH eX=>?_
  rw[← s2]at fH
  exact ih N A r' k9 ro n Q c' w' a' gG fH (hk.mono eX hle)
 | @off e r s R hg t ih=>
  intro N A ops hc ro n Q c w a gG hs hk
  obtain⟨o,r',rfl,ho,k9⟩:=uR hc
  obtain⟨s1,s2,s3,s4⟩:=tq ho
  have hw:=pY hs.env s4 hg
  simp only[wpListIn,hw,bF,if_false]
  refine⟨fun _ _=>trivial,?_⟩
  have fH:=hs.next hs.eR (Step.refl _ _ _ _) s3 (v:=undef) (d:=.val undef) (.val _)
  rw[← s2]at fH
  rw[← s2]
  exact ih N A r' k9 ro n Q c w _ gG (by rw[s2]at fH ⊢;exact fH) hk
 | @jF l s R S hm t ih=>
  have hlen:(jF S s).H.length=s.H.length:=HH
  intro N A ops hc ro n Q c w a gG hs hk
  obtain⟨c',fH,eX,_⟩:=M1 hs S
  refine ih N A ops hc ro n Q c' w a gG fH ?_
  rw[hlen]
  exact hk.mono eX (Nat.le_refl _)
 | @zl code s R S hm t ih=>
  have hlen:(jF S s).H.length=s.H.length:=HH
  intro N code hc ro n Q c w a gG hs hk
  obtain⟨c',fH,eX,_⟩:=M1 hs S
  refine ih N code hc ro n Q c' w a gG fH ?_
  rw[hlen]
  exact hk.mono eX (Nat.le_refl _)
 | @HE l s R live t ih=>
  intro N A ops hc ro n Q c w a gG hs hk
  exact ih N A ops hc ro n Q c w a gG ⟨hs.eR,wO hs.env live,hs.size,hs.marks⟩ hk
 | @Ek code s R live t ih=>
  intro N code hc ro n Q c w a gG hs hk
  exact ih N code hc ro n Q c w a gG ⟨hs.eR,wO hs.env live,hs.size,hs.marks⟩ hk
 | @yU e r s f args fn R1 R hg hc hf hp h ha t qt ih=>
  intro N A ops mN ro n Q c w a gG hs hk
  obtain⟨o,r',rfl,ho,k9⟩:=uR mN
  obtain⟨s1,s2,s3,s4⟩:=tq ho
  have hw:=pY hs.env s4 hg
  simp only[wpListIn,hw,if_true]
  obtain⟨func,code,h1,h2,t1,t2,t3,_⟩:=(hT.fn f fn hf).ex
  have hJ:∀ d Hn,ye R1 d Hn→(if fm args then kE d&&Hn.all lG else mD d&&Hn.all mJ)=true∧after s e.dst args d Hn=some { s with env:=put s.env e.dst (iO s.H.length d),H:=s.H++Hn }:=fun d Hn hR=>by
   obtain⟨s',fH⟩:=cY.1 (ha d Hn hR)
   obtain⟨k1,rfl⟩:=QQ fH
   exact⟨k1,fH⟩
  have s1:=y6 s1 hc
  refine QH hs s1 s3 hc t3 (R:=fun d H'=>∃ d0 Hn,ye R1 d0 Hn∧d=iO s.H.length d0∧H'=s.H++Hn) (fun vs gT=>(abE hs.eR gT qt fun d Hn hR=>(hJ d Hn hR).1).mono ?_) ?_
  ·rintro e w' ⟨v,c',d,Hn,he,hR,k1,k2,k3⟩
   exact⟨v,c',_,_,he,⟨d,Hn,hR,rfl,rfl⟩,k1,k2,k3⟩
  ·rintro d H' c' w' a' ⟨d0,Hn,hR,rfl,rfl⟩ fH eX
   rw[← s2]at fH
   exact ih d0 Hn _ hR (hJ d0 Hn hR).2 N A r' k9 ro n Q c' w' a' gG fH (hk.mono eX (by simp))
 | @yT e r s f args fn R1 R hg hc hf hp h t qt ih=>
  intro N A ops mN ro n Q c w a gG hs hk
  obtain⟨o,r',rfl,ho,k9⟩:=uR mN
  obtain⟨s1,s2,s3,s4⟩:=tq ho
  have hw:=pY hs.env s4 hg
  simp only[wpListIn,hw,if_true]
  obtain⟨func,code,h1,h2,t1,t2,t3,_⟩:=(hT.fn f fn hf).ex
  have s1:=y6 s1 hc
  refine QH hs s1 s3 hc t3 (R:=fun d H'=>ye R1 d H'∧s.H.length≤H'.length) (fun vs gT=>(qt c w vs hs.eR gT).mono ?_) ?_
  ·rintro e w' ⟨v,c',d,H',he,hR,hle,k1,k2,k3⟩
   exact⟨v,c',d,H',he,⟨hR,hle⟩,k1,k2,k3⟩
  ·rintro d H' c' w' a' ⟨hR,hle⟩ fH eX
   rw[← s2]at fH
   exact ih d H' hR N A r' k9 ro n Q c' w' a' gG fH (hk.mono eX hle)
 | @DI e r s v args rf env0 Rd Ra Rb R hg hc hv hR hl ha hn hb hm t mR rl qu=>
  intro N A ops mN ro n Q c w a gG hs hk
  obtain⟨o,r',rfl,ho,k9⟩:=uR mN
  obtain⟨s1,s2,s3,s4⟩:=tq ho
  have hw:=pY hs.env s4 hg
  simp only[wpListIn,hw,if_true]
  obtain⟨M,ps,ac,bc,qh,EY,fj,Ic,TQ⟩:=(hT.round rf Rd hR).ex
  rw[← EY]at hl mR fj
  have s1:=s1.resolve_right fun h2=>by
   have:=He h2
   unfold yieldOf at hc
   split at hc
   ·rename_i heq;rw[heq]at this;cases this
   ·cases hc
  refine adf hs s1 s3 hc hv qh (by simpa using hl) (fun p hp=>by simpa using ao.1 fj p hp) (Ra:=outs Ra) (Rb:=outs Rb) ?_ hn ?_ hm ?_
  ·exact fun ro n Q c w a fH gX=>mR M ac Ic ro n Q c w a (fun h=>by cases h) fH gX
  ·intro s1 jj tG ma jP ro n Q c w a fH gX
   have:=rl s1 jj tG jP M bc TQ ro n Q c w a (fun h=>by simp[ma]at h) fH
   simp only[bN,ma]at this
   exact this gX
  ·intro q ja c' w' a' tH mQ hle fH eX
   rw[← s2]at fH
   exact qu q ja tH mQ N A r' k9 ro n Q c' w' a' gG fH (hk.mono eX (by simpa using hle))
 | @next e r s x v m since seen kk es R hg gf hx hv hm pQ h0 h1 VA ow=>
  intro N A ops mN ro n Q c w a gG hs hk
  obtain⟨o,r',rfl,ho,k9⟩:=uR mN
  obtain⟨s1,s2,s3,s4⟩:=tq ho
  have hw:=pY hs.env s4 hg
  simp only[wpListIn,hw,if_true]
  rw[gf]at s1
  have s1:=s1.resolve_left fun h2=>abv h2
  refine ac9 hs s1 s3 hx hv hm pQ ?_ ?_
  ·intro gy c' w' a' fH eX
   rw[← s2]at fH
   exact VA gy N A r' k9 ro n Q c' w' a' gG fH (hk.mono eX (Nat.le_refl _))
  ·intro i k d hi ET c' w' a' fH eX
   rw[← s2]at fH
   exact ow i k d hi ET N A r' k9 ro n Q c' w' a' gG fH (hk.mono eX (by simp))
 | @skip s R h=>
  intro N code hc ro n Q c w a gG eR hk
  cases hc
  exact wpIn_skip (hk _ c w a h rfl (Nat.le_refl _) eR (Step.refl _ _ _ _))
 | @y9 l s R h ih=>
  intro N code hc ro n Q c w a gG eR hk
  cases hc with
  | ops h=>exact wpIn_region_list (ih N _ _ h ro n Q c w a gG eR hk)
 | @seq a b s R1 R h k hs ow pf=>
  intro N code hc ro n Q c w a gG eR hk
  cases hc with
  | seq h1 h2=>
   refine wpIn_seq (ow N _ h1 ro n _ c w a gG eR fun o c' w' a' hR ma hle oq eX=>?_)
   cases o with
   | norm s'=>
    have E4:s'.fL=s.fL:=ma
    refine pf s' hR N _ h2 ro n Q c' w' a' (fun h=>gG (by rw[← E4];exact h)) oq ?_
    rw[E4]
    exact hk.mono eX hle
   | exit id s'=>exact hk _ c' w' a' (hs _ hR rfl) ma hle oq eX
   | ret s'=>exact hk _ c' w' a' (hs _ hR rfl) ma hle oq eX
 | @cond c a b s x R hc h ih=>
  intro N code mN ro n Q c w a gG eR hk
  cases mN with
  | @cond cx ca cb _ _ _ hx h1 h2=>
   have hr:=gD eR.eR eR.env hx
   rw[hc]at hr
   have he:a.eval cx = .bool x:=by
    generalize a.eval cx=u at hr
    cases hr;rfl
   refine wpIn_cond he ?_
   cases x
   ·exact ih N _ h2 ro n Q c w a gG eR hk
   ·exact ih N _ h1 ro n Q c w a gG eR hk
 | @block id live a s R1 R h k ih=>
  have hlen:∀ s':St,s.H.length≤s'.H.length→s.H.length≤(cut s.H.length live s').H.length:=by
   intro s' h1
   unfold cut
   split
   ·exact h1
   ·dsimp only;rw[Gj];simp[gh]
  have NS:∀ s':St,(cut s.H.length live s').fL=s'.fL:=by
   intro s'
   unfold cut
   split<;>rfl
  intro N code hc ro n Q c w a gG eR hk
  cases hc with
  | block h1=>
   refine wpIn_block (ih N _ h1 ro n _ c w a gG eR fun o c' w' a' hR ma hle oq eX=>?_)
   have mO:=k o hR
   cases o with
   | norm s'=>
    obtain⟨c2,kQ,oS,_⟩:=Hj oq hle live
    exact hk (.norm (cut s.H.length live s')) c2 w' a' mO ((NS s').trans ma) (hlen s' hle) kQ (eX.trans oS (Nat.le_refl _))
   | exit tW s'=>
    by_cases Ip:tW=id
    ·subst Ip
     obtain⟨c2,kQ,oS,_⟩:=Hj oq hle live
     simp only[kJ,if_true]at mO
     have:=hk (.norm (cut s.H.length live s')) c2 w' a' mO ((NS s').trans ma) (hlen s' hle) kQ (eX.trans oS (Nat.le_refl _))
     simp only[Out.ex,Exit.inBlock,if_true]at this ⊢
     exact this
    ·simp only[kJ,if_neg Ip]at mO
     have:=hk _ c' w' a' mO ma hle oq eX
     simp only[Out.ex,Exit.inBlock,if_neg Ip]at this ⊢
     exact this
   | ret s'=>exact hk _ c' w' a' mO ma hle oq eX
 | @Bi s R hR=>
  exact⟨[],s,hR,Nat.le_refl _,rfl,rfl,fun K k0 hK=>⟨[],rfl,rfl,rfl,.nil⟩⟩
 | @Bk e r s d δ R1 R hg h t k ih=>
  obtain⟨rs,s',oN,i1,i2,i4,i3⟩:=ih
  refine⟨_,s',k _ _ oN,Nat.le_trans (GN δ s.H) i1,i2,i4,fun K k0 hK=>?_⟩
  obtain⟨items,e1,e2,e3,sg⟩:=i3 K (k0+1) hK
  obtain⟨a1,a2⟩:=GO (QW h) K (Nat.le_trans i1 hK)
  refine⟨⟨k0,e,s.H.length,⟨fu s.env.get s.H e.op,im s.H.length δ⟩⟩::items,by simp[e1],by simp[e2],by simp[e3,cE],?_⟩
  have hE:Ef (CC P G) s.env.get (s.H++room (K-s.H.length)) e s.H.length ⟨fu s.env.get s.H e.op,im s.H.length δ⟩ d δ:=by
   have:=Ef.op (C:=CC P G) (f:=s.env.get) (H:=s.H++room (K-s.H.length)) (e:=e) (n:=s.H.length) hg (by rw[QV];exact h) a2
   rwa [En]at this
  refine .cons hE ?_
  rw[a1]
  have hp:(put s.env e.dst d).get=kd s.env.get e.dst d:=AP _ _ _
  rw[← hp]
  exact sg
 | @Bj e r s R1 R hg t k ih=>
  obtain⟨rs,s',oN,i1,i2,i4,i3⟩:=ih
  refine⟨_,s',k _ _ oN,i1,i2,i4,fun K k0 hK=>?_⟩
  obtain⟨items,e1,e2,e3,sg⟩:=i3 K (k0+1) hK
  refine⟨⟨k0,e,0,⟨[],[]⟩⟩::items,by simp[e1],by simp[e2],by simp[e3,cE],.cons (.off hg) ?_⟩
  have hp:(put s.env e.dst (.val undef)).get=kd s.env.get e.dst (.val undef):=AP _ _ _
  rw[← hp]
  exact sg
 | @Bf e r s f args fn d R0 R1 R hg hc hf hp h h0 hr t k qt ih=>
  obtain⟨rs,s',oN,i1,i2,i4,i3⟩:=ih
  refine⟨_,s',k _ _ oN,i1,i2,i4,fun K k0 hK=>?_⟩
  obtain⟨items,e1,e2,e3,sg⟩:=i3 K (k0+1) hK
  refine⟨⟨k0,e,0,⟨fu s.env.get s.H e.op,[]⟩⟩::items,by simp[e1],by simp[e2],by simp[e3,cE],?_⟩
  obtain⟨func,code,h1,h2,t1,t2,t3,_⟩:=(hT.fn f fn hf).ex
  have hE:Ef (CC P G) s.env.get (s.H++room (K-s.H.length)) e 0 ⟨fu s.env.get s.H e.op,[]⟩ d .no:=by
   have e0:args.map (eS (fun _=>none) (s.H++room (K-s.H.length)) 40)=args.map (eS (fun _=>none) s.H 40):=aj fun d _=>(AY 40 d).2
   have:=Ef.call (C:=CC P G) (f:=s.env.get) (H:=s.H++room (K-s.H.length)) (e:=e) (n:=0) hg hc (by rw[e0];exact⟨t3,qt.one h0⟩) hr
   rwa [En]at this
  refine .cons hE ?_
  have hp:(put s.env e.dst d).get=kd s.env.get e.dst d:=AP _ _ _
  rw[← hp]
  exact sg
 | @Bg e r s f rQ args fn d ob R0 R1 R hg gf ha hf hp h h0 hr t k qt ih=>
  obtain⟨rs,s',oN,i1,i2,i4,i3⟩:=ih
  have hle:s.H.length≤(s.H ++ [ob]).length:=by simp
  refine⟨_,s',k _ _ oN,Nat.le_trans hle i1,i2,i4,fun K k0 hK=>?_⟩
  obtain⟨items,e1,e2,e3,sg⟩:=i3 K (k0+1) hK
  have IX:Safe s.H (.new ob):=trivial
  obtain⟨a1,a2⟩:=GO (δ:=.new ob) IX K (by have:(s.H ++ [ob]).length≤K:=Nat.le_trans i1 hK;simpa[Dl.app,Al.last]using this)
  refine⟨⟨k0,e,s.H.length,⟨fu s.env.get s.H e.op,[(s.H.length,none)]⟩⟩::items,by simp[e1],by simp[e2],by simp[e3,cE],?_⟩
  obtain⟨func,code,h1,h2,t1,t2,t3,_⟩:=(hT.fn f fn hf).ex
  have hE:Ef (CC P G) s.env.get (s.H++room (K-s.H.length)) e s.H.length ⟨fu s.env.get s.H e.op,[(s.H.length,none)]⟩ (iO s.H.length d) (.new ob):=by
   have e0:args.map (eS (fun _=>none) (s.H++room (K-s.H.length)) 40)=args.map (eS (fun _=>none) s.H 40):=aj fun d _=>(AY 40 d).2
   have:=Ef.callN (C:=CC P G) (f:=s.env.get) (H:=s.H++room (K-s.H.length)) (e:=e) (n:=s.H.length) hg gf ha (by rw[e0];exact⟨t3,qt.one h0⟩) hr a2
   rwa [En]at this
  refine .cons hE ?_
  have GK:js s.H.length (.new ob) (s.H++room (K-s.H.length))=(s.H ++ [ob])++room (K-(s.H ++ [ob]).length):=a1
  show Tx (CC P G) (kd s.env.get e.dst (iO s.H.length d)) (js s.H.length (.new ob) (s.H++room (K-s.H.length))) items _ _
  rw[GK]
  have hp:(put s.env e.dst (iO s.H.length d)).get=kd s.env.get e.dst (iO s.H.length d):=AP _ _ _
  rw[← hp]
  exact sg
 | @Bh e r s f rQ args fn d v R0 R1 R hg gf ha hf hp hS hv fR fE h h0 hr t k qt ih=>
  obtain⟨rs,s',oN,i1,i2,i4,i3⟩:=ih
  have hle:s.H.length≤(s.H.set v .dead).length:=by simp
  refine⟨_,s',k _ _ oN,Nat.le_trans hle i1,i2,i4,fun K k0 hK=>?_⟩
  obtain⟨items,e1,e2,e3,sg⟩:=i3 K (k0+1) hK
  have gL:v<s.H.length:=by
   unfold rowsOf at fR
   split at fR
   ·rename_i q;exact(ae.1 q).1
   ·cases fR
  have IX:Safe s.H (.obj v .dead):=gL
  obtain⟨a1,a2⟩:=GO (δ:=.obj v .dead) IX K (by have:(s.H.set v .dead).length≤K:=Nat.le_trans i1 hK;simpa[Dl.app]using this)
  refine⟨⟨k0,e,0,⟨fu s.env.get s.H e.op,[(v,none)]⟩⟩::items,by simp[e1],by simp[e2],by simp[e3,cE],?_⟩
  obtain⟨func,code,h1,h2,t1,t2,t3,_⟩:=(hT.fn f fn hf).ex
  have hE:Ef (CC P G) s.env.get (s.H++room (K-s.H.length)) e 0 ⟨fu s.env.get s.H e.op,[(v,none)]⟩ d (.obj v .dead):=by
   have e0:args.map (eS (fun _=>none) (s.H++room (K-s.H.length)) 40)=args.map (eS (fun _=>none) s.H 40):=aj fun d _=>(AY 40 d).2
   have e4:args.map (fX (s.H++room (K-s.H.length)) 40)=args.map (fX s.H 40):=aj fun d _=>(AY 40 d).1
   have:=Ef.uO (C:=CC P G) (f:=s.env.get) (H:=s.H++room (K-s.H.length)) (e:=e) (n:=0) (v:=v) hg gf ha (by rw[e4];exact hS) (by rw[e4];exact hv) (by rw[J2];exact fR) (by rw[e0];exact⟨t3,qt.one h0⟩) (by rw[e0];exact fE) hr
   rwa [En]at this
  refine .cons hE ?_
  have GK:js 0 (.obj v .dead) (s.H++room (K-s.H.length))=(s.H.set v .dead)++room (K-(s.H.set v .dead).length):=a1
  show Tx (CC P G) (kd s.env.get e.dst d) (js 0 (.obj v .dead) (s.H++room (K-s.H.length))) items _ _
  rw[GK]
  have hp:(put s.env e.dst d).get=kd s.env.get e.dst d:=AP _ _ _
  rw[← hp]
  exact sg
 | @draw ic l s R1 R t hp ih=>
  obtain⟨rs,s',oN,i1,i2,i4,i3⟩:=ih
  obtain⟨hp,TA⟩:=hp rs s' oN
  intro N code hc ro n Q c w a gG eR hk
  cases hc with
  | @draw _ _ id A ord sj he ho k8=>
   obtain⟨items,e1,e2,e3,vc⟩:=i3 s'.H.length 0 (Nat.le_refl _)
   have hlen:items.length=l.length:=by rw[← e1];simp
   have fE:∀ (ops:List Oper) (l:List fo),mo P G N A ops=some l→ops.length=l.length∧∀ (i:Nat) (o:Oper) (e:fo),ops[i]? = some o→l[i]? = some e→qT P G N A o=some e:=by
    intro ops
    induction ops with
    | nil=>intro l h;cases h;exact⟨rfl,fun i o e h=>by simp at h⟩
    | cons o r Je=>
     intro l h
     obtain⟨e,l',rfl,h1,h2⟩:=za h
     obtain⟨q1,q2⟩:=Je l' h2
     refine⟨by simp[q1],fun i o' e' ho he=>?_⟩
     cases i with
     | zero=>simp at ho he;subst ho;subst he;exact h1
     | succ i=>exact q2 i o' e' (by simpa using ho) (by simpa using he)
   obtain⟨q1,q2⟩:=fE _ _ sj
   have hA:A.size=l.length:=by rw[← q1];simp
   have ia:∀ (i:Nat) (it:kI),items[i]? = some it→it.k=i∧l[i]? = some it.e∧rs[i]? = some it.rc:=by
    intro i it hi
    have fj:=(ae.1 hi).1
    refine⟨?_,by rw[← e1];simp[hi],by rw[← e2];simp[hi]⟩
    have:(items.map (·.k))[i]? = some it.k:=by simp[hi]
    rw[e3,List.getElem?_range' (by omega)]at this
    simpa using this.symm
   refine wpIn_region_any hM ?_
   have pN:e9 G c s.H { w with drawn:=w.drawn+1 }:=eR.eR.mL (iC.drew w)
   have z8:Step s.H.length c s.H w c s.H { w with drawn:=w.drawn+1 }:=x9 _ (iC.drew w)
   have pd:SX G N c { w with drawn:=w.drawn+1 } s.env.get (s.H++room (s'.H.length-s.H.length)) s.marks a:=
    ⟨P0 pN _,jh.carry (fun _ _ h=>h.nA eR.eR.toHeapOK z8) eR.env,eR.size,eR.marks⟩
   refine Lv (C:=CC P G) (fun g args d Hn h=>h) he ho A.size items _ c _ _ _ a (by omega) ?_ pd vc ?_ ?_ fun c' w' a' fH eX=>?_
   ·refine⟨by simp,fun j hj=>?_,?_,fun it iA=>?_,fun i hi hl=>?_⟩
    ·refine⟨fun _=>⟨items[j]'(by omega),bH _,(ia j _ (List.getElem?_eq_getElem _)).1⟩,fun _=>by simp[hj]⟩
    ·rw[bk]
     intro i j hi hj vr
     rw[(ia i _ (List.getElem?_eq_getElem hi)).1,(ia j _ (List.getElem?_eq_getElem hj)).1]
     exact vr
    ·obtain⟨i,hi⟩:=aD.1 iA
     have fj:=(ae.1 hi).1
     rw[(ia i it hi).1];omega
    ·simp[hi]at hl
   ·intro it iA
    obtain⟨i,hi⟩:=aD.1 iA
    have fj:=(ae.1 hi).1
    obtain⟨k1,k2,k3⟩:=ia i it hi
    refine⟨A[i]'(by omega),by rw[k1];simp,q2 i _ _ (by simp) k2⟩
   ·intro p ql q hq qm
    obtain⟨i,hi⟩:=aD.1 ql
    obtain⟨j,hj⟩:=aD.1 hq
    obtain⟨p1,p2,p3⟩:=ia i p hi
    obtain⟨JU,JV,q3⟩:=ia j q hj
    rw[p1,JU]at qm ⊢
    have fj:=(ae.1 hj).1
    have:=ao.1 (ao.1 k8 j (bx.2 (by omega))) i (bx.2 qm)
    simp only[p2,JV,cg,ah,cP]at this
    rcases this with h|⟨h1,h2⟩
    ·exact .inl h
    ·refine .inr ⟨h1,?_⟩
     rcases h2 with h2|h2
     ·have:=ao.1 hp (i,j) h2
      simp only[p3,q3]at this
      exact this
     ·obtain⟨_,_,_,_,E1⟩:=vc.each p ql
      obtain⟨_,_,_,_,E2⟩:=vc.each q hq
      exact Qr E1 E2 h2
   ·simp only[Nat.sub_self,room,List.replicate_zero,aw]at fH eX
    refine hk _ c' w' a' TA i4 i1 ⟨fH.eR,fH.env,fH.size,by show ko c' s'.marks _;rw[i2];exact fH.marks⟩ ?_
    have h1:=z8.trans (P1 (c:=c) (w:={ w with drawn:=w.drawn+1 }) (H:=s.H) (s'.H.length-s.H.length) s.H.length) (Nat.le_refl _)
    exact h1.trans eX (by simp)
 | @kh ic l es s R1 R t hp k ih sG=>
  obtain⟨rs,s',oN,i1,i2,i4,i3⟩:=ih
  have hp:=hp rs s' oN
  have sG:=sG rs s' oN
  intro N code hc ro n Q c w a gG eR hk
  cases hc with
  | @kh _ _ _ id A ord sj he ho k8 tN=>
   obtain⟨items,e1,e2,e3,vc⟩:=i3 s'.H.length 0 (Nat.le_refl _)
   have hlen:items.length=l.length:=by rw[← e1];simp
   obtain⟨o1,o2,HR,c1,c2⟩:=Mi sj
   obtain⟨q1,q2⟩:=Mj c1
   obtain⟨q3,_⟩:=Mj c2
   have hA:A.size=l.length+es.length:=by rw[← cH,HR,ay,q1,q3]
   have Tr:∀ i,i<l.length→A[i]? = o1[i]? := fun i hi=>by
    rw[← bB,HR,ag (by omega)]
   have Ts:∀ i,A[l.length+i]? = o2[i]? := fun i=>by
    rw[← bB,HR,ak (by omega)]
    congr 1;omega
   have ia:∀ (i:Nat) (it:kI),items[i]? = some it→it.k=i∧l[i]? = some it.e∧rs[i]? = some it.rc∧i<l.length:=by
    intro i it hi
    have fj:=(ae.1 hi).1
    refine⟨?_,by rw[← e1];simp[hi],by rw[← e2];simp[hi],by omega⟩
    have:(items.map (·.k))[i]? = some it.k:=by simp[hi]
    rw[e3,List.getElem?_range' (by omega)]at this
    simpa using this.symm
   refine wpIn_region_any hM ?_
   have pN:e9 G c s.H { w with drawn:=w.drawn+1 }:=eR.eR.mL (iC.drew w)
   have z8:Step s.H.length c s.H w c s.H { w with drawn:=w.drawn+1 }:=x9 _ (iC.drew w)
   have pd:SX G N c { w with drawn:=w.drawn+1 } s.env.get (s.H++room (s'.H.length-s.H.length)) s.marks a:=
    ⟨P0 pN _,jh.carry (fun _ _ h=>h.nA eR.eR.toHeapOK z8) eR.env,eR.size,eR.marks⟩
   have q8:∀ q∈(es.zipIdx l.length).map (fun p=>(⟨p.2,p.1,0,⟨[],[]⟩⟩:kI)),l.length≤q.k∧q.k<l.length+es.length:=fun q hq=>by
    obtain⟨p,ql,rfl⟩:=av.1 hq
    obtain⟨x,y⟩:=p
    have:=List.mem_zipIdx ql
    exact⟨this.1,by show y<_;omega⟩
   have q7:((es.zipIdx l.length).map (fun p=>(⟨p.2,p.1,0,⟨[],[]⟩⟩:kI))).length=es.length:=by simp
   rw[show A.size=items.length+((es.zipIdx l.length).map (fun p=>(⟨p.2,p.1,0,⟨[],[]⟩⟩:kI))).length by rw[q7];omega]
   refine Lw (C:=CC P G) (fun g args d Hn h=>h) he ho (lasts:=(es.zipIdx l.length).map fun p=>⟨p.2,p.1,0,⟨[],[]⟩⟩) (ops:=o2) (fun q hq k hk=>tN q.k (q8 q hq).1 (by simp;exact(q8 q hq).2) k hk) ?_ items.length items _ c _ _ _ a rfl ?_ pd vc ?_ ?_ fun c' w' a' fH eX=>?_
   ·refine bK fun i=>?_
    simp only[cd,ar,List.getElem?_zipIdx]
    cases h:es[i]? with
    | none=>
     have:es.length≤i:=by simpa using h
     simp[aG (l:=o2) (i:=i) (by omega)]
    | some e=>
     have:=(ae.1 h).1
     simp[Ts,List.getElem?_eq_getElem (l:=o2) (i:=i) (by omega)]
   ·refine⟨by simp;omega,fun j hj=>?_,?_,fun it iA=>?_,fun i hi hl=>?_⟩
    ·refine⟨fun _=>?_,fun _=>by rw[q7];simp[show j<items.length+es.length by omega]⟩
     by_cases l7:j<l.length
     ·exact⟨items[j]'(by omega),aP _ (bH _),(ia j _ (List.getElem?_eq_getElem _)).1⟩
     ·refine⟨⟨j,es[j-l.length]'(by omega),0,⟨[],[]⟩⟩,bq _ (av.2 ⟨(es[j-l.length]'(by omega),j),?_,rfl⟩),rfl⟩
      rw[List.mem_zipIdx_iff_le_and_getElem?_sub]
      exact⟨by omega,by simp⟩
    ·refine aV.2 ⟨?_,?_,fun p ql q hq=>?_⟩
     ·rw[bk]
      intro i j hi hj vr
      rw[(ia i _ (List.getElem?_eq_getElem hi)).1,(ia j _ (List.getElem?_eq_getElem hj)).1]
      exact vr
     ·rw[bk]
      intro i j hi hj vr
      simp
      omega
     ·obtain⟨i,hi⟩:=aD.1 ql
      have h1:=ia i p hi
      have h2:=q8 q hq
      omega
    ·rcases List.mem_append.1 iA with iA|iA
     ·obtain⟨i,hi⟩:=aD.1 iA
      have:=ia i it hi
      omega
     ·have:=q8 it iA;omega
    ·rw[q7]at hl
     have:i<items.length+es.length:=by omega
     simp[this]at hl
   ·intro it iA
    obtain⟨i,hi⟩:=aD.1 iA
    obtain⟨k1,k2,k3,k4⟩:=ia i it hi
    have h1:o1[i]? = some (o1[i]'(by omega)):=List.getElem?_eq_getElem _
    exact⟨o1[i]'(by omega),by rw[k1,Tr i k4,h1],q2 i _ _ h1 k2⟩
   ·intro p ql q hq qm
    obtain⟨i,hi⟩:=aD.1 ql
    obtain⟨j,hj⟩:=aD.1 hq
    obtain⟨p1,p2,p3,p4⟩:=ia i p hi
    obtain⟨JU,JV,q3,q4⟩:=ia j q hj
    rw[p1,JU]at qm ⊢
    have:=ao.1 (ao.1 k8 j (bx.2 (by simp;omega))) i (bx.2 qm)
    simp only[ag p4,ag q4,p2,JV,cg,ah,cP]at this
    rcases this with h|⟨h1,h2⟩
    ·exact .inl h
    ·refine .inr ⟨h1,?_⟩
     rcases h2 with h2|h2
     ·have:=ao.1 hp (i,j) h2
      simp only[p3,q3]at this
      exact this
     ·obtain⟨_,_,_,_,E1⟩:=vc.each p ql
      obtain⟨_,_,_,_,E2⟩:=vc.each q hq
      exact Qr E1 E2 h2
   ·simp only[Nat.sub_self,room,List.replicate_zero,aw]at fH eX
    have h1:=z8.trans (P1 (c:=c) (w:={ w with drawn:=w.drawn+1 }) (H:=s.H) (s'.H.length-s.H.length) s.H.length) (Nat.le_refl _)
    have h2:=h1.trans eX (by simp)
    exact sG N A o2 c2 ro n Q c' w' a' (by rw[i4];exact gG) ⟨fH.eR,fH.env,fH.size,by show ko c' s'.marks _;rw[i2];exact fH.marks⟩ (by rw[i4];exact hk.mono h2 i1)
 | @loop live a s R h ih=>
  intro N code hc ro n Q c w a gG eR hk
  cases hc with
  | loop h1=>exact ac8 (ih (Nat.le_refl _) N _ h1 ro n Q c w a gG ⟨eR.eR,wO eR.env live,eR.size,eR.marks⟩ hk)
 | @tZ n0 live a s R1 R h k hs ow pf=>
  intro hn N code hc ro n Q c w a gG eR hk
  refine WB (ow N _ hc ro n _ c w a gG eR fun o c' w' a' hR ma hle oq eX=>?_)
  cases o with
  | norm s'=>
   have NC:n0≤s'.H.length:=Nat.le_trans hn hle
   have zB:n0≤(cut n0 live s').H.length:=by
    unfold cut
    split
    ·exact NC
    ·dsimp only;rw[Gj];simp[gh]
   have zZ:(cut n0 live s').fL=s.fL:=by
    have E4:s'.fL=s.fL:=ma
    unfold cut
    split<;>exact E4
   obtain⟨c2,kQ,oS,_⟩:=Hj oq NC live
   refine pf s' hR zB N _ hc ro n Q c2 w' a' (fun h=>gG (by rw[← zZ];exact h)) kQ ?_
   rw[zZ]
   exact hk.mono ((eX.weaken hn).trans oS (Nat.le_refl _)) (Nat.le_refl _)
  | exit id s'=>exact hk _ c' w' a' (hs _ hR rfl) ma (Nat.le_trans hn hle) oq (eX.weaken hn)
  | ret s'=>exact hk _ c' w' a' (hs _ hR rfl) ma (Nat.le_trans hn hle) oq (eX.weaken hn)
 | @kF rf live x s f first cap fn R1 R ma hx hf hp h k ih=>
  intro N code hc ro n Q c w a gG eR hk
  have UU:=gG ma
  subst UU
  cases hc with
  | kF Ve qh=>
   obtain⟨func,code,h1,h2,t1,t2,t3,_⟩:=(hT.fn f fn hf).ex
   exact adb eR Ve hx t3 qh (live:=live) (R1:=ye R1) (R:=outs R) ih k hk
 | @exit id s R h=>
  intro N code hc ro n Q c w a gG eR hk
  cases hc
  exact wpIn_exit (hk _ c w a h rfl (Nat.le_refl _) eR (Step.refl _ _ _ _))
 | @ret s R h=>
  intro N code hc ro n Q c w a gG eR hk
  cases hc
  exact wpIn_ret (hk _ c w a h rfl (Nat.le_refl _) eR (Step.refl _ _ _ _))
 | @call f args H fn R1 R own hf hl h k ih=>
  intro c w vs eR gT
  obtain⟨func,code,hs,fH,t1,t2,t3,t7,t4,t5,t6⟩:=(hT.fn f fn hf).ex
  have zZ:=abH hT.rt t1 t2 t7
  rw[t5]at zZ
  refine callsIn_wide (n:=0) |>.1 (callsIn_of_wp_marks (F:=FW none) t1 t2 trivial (ih fn.ntmps code (G1 zZ t4) none 0 _ c w _ (fun _=>rfl) ⟨eR,Sg gT _,?_,.nil⟩ ?_))
  ·simp;omega
  ·intro o c' w' a' hR ma hle lu eX
   obtain⟨d,H',kA,TB⟩:=k o hR
   have main:∀ s:St,o.st=s→∀ H1,kill s.marks s.H=some H1→∀ d0,AL.results fn { s with H:=H1 }=some d0→leave own H.length H1 d0=(d,H') →
     LeavesInM (FW none) 0 P func a'.tmps (fun e w'=>∃ v c' d H',e = .returned v∧ye R d H'∧H.length≤H'.length∧e9 G c' H' w'∧eP c' w' v d∧Step H.length c H w c' H' w') a'.defers .returning w':=by
    rintro s rfl H1 Un d0 xn Ut
    refine Wn lu.marks lu.eR Un fun w1 q1 q2 q3=>?_
    have E5:ji G fn.ntmps c' w1 { o.st with H:=H1,marks:=[] } { a' with defers:=[] }:=⟨q1,fun j=>(lu.env j).nA lu.eR.toHeapOK q2,lu.size,.nil⟩
    obtain⟨v,hv,I5⟩:=abS E5 t6 (d:=d0) (by rw[← xn];exact abR { o.st with H:=H1 } [])
    have Us:H.length≤H1.length:=by rw[q3];exact hle
    obtain⟨c2,k1,k2,k3,k4⟩:=Wm q1 Us own I5
    rw[Ut]at k1 k2 k3 k4
    exact⟨v,hv,v,c2,d,H',rfl,TB,k4,k1,k2,(eX.trans q2 hle).trans k3 (Nat.le_refl _)⟩
   have Nt:∀ s:St,finish fn own H.length (.norm s)=some (d,H')→∃ H1,kill s.marks s.H=some H1∧∃ d0,AL.results fn { s with H:=H1 }=some d0∧leave own H.length H1 d0=(d,H'):=by
    intro s hf
    simp only[finish]at hf
    split at hf
    ·rename_i H1 mO
     split at hf
     ·rename_i d0 jb
      exact⟨H1,mO,d0,jb,cJ hf⟩
     ·cases hf
    ·cases hf
   cases o with
   | norm s=>
    obtain⟨H1,q1,d0,q2,q3⟩:=Nt s kA
    exact main s rfl H1 q1 d0 q2 q3
   | ret s=>
    obtain⟨H1,q1,d0,q2,q3⟩:=Nt s kA
    exact main s rfl H1 q1 d0 q2 q3
   | exit id s=>cases kA
end
end Go.AL
namespace Go.AL
open Go
def Ea:Value→Value→Bool
 | .int k a,.int k' b=>decide (k=k')&&decide (a=b)
 | .bool a,.bool b=>a == b
 | .string a,.string b=>decide (a.data.toList=b.data.toList)
 | .nilFunc,.nilFunc=>true
 | .tuple a,.tuple b=>a.toList.isEmpty&&b.toList.isEmpty
 | _,_=>false
mutual
def mr:D→D→Bool
 | .any,.any=>true
 | .val a,.val b=>Ea a b
 | .agg a,.agg b=>o6 a b
 | .tup a,.tup b=>o6 a b
 | .sl n a,.sl m b=>decide (n=m)&&wP a b
 | .emp,.emp=>true
 | .eN a b c d e,.eN a' b' c' d' e'=>decide (a=a')&&decide (b=b')&&decide (c=c')&&decide (d=d')&&decide (e=e')
 | .ptr a b c,.ptr a' b' c'=>decide (a=a')&&decide (b=b')&&decide (c=c')
 | .eZ a,.eZ b=>o6 a b
 | .omap a,.omap b=>decide (a=b)
 | .gO a,.gO b=>decide (a=b)
 | .fn (.func f) a b,.fn (.func f') a' b'=>decide (f=f')&&o6 a a'&&o6 b b'
 | _,_=>false
def o6:List D→List D→Bool
 | [],[]=>true
 | a::l,b::m=>mr a b&&o6 l m
 | _,_=>false
def wP:List (List D)→List (List D)→Bool
 | [],[]=>true
 | a::l,b::m=>o6 a b&&wP l m
 | _,_=>false
end
def uU:Env→Env→Bool
 | [],[]=>true
 | (i,a)::l,(j,b)::m=>decide (i=j)&&mr a b&&uU l m
 | _,_=>false
def wQ:List (Value×D)→List (Value×D)→Bool
 | [],[]=>true
 | (i,a)::l,(j,b)::m=>Ea i j&&mr a b&&wQ l m
 | _,_=>false
def Hr:Ob→Ob→Bool
 | .row t g a,.row t' g' b=>decide (t=t')&&decide (g=g')&&o6 a b
 | .map k a,.map k' b=>decide (k=k')&&wQ a b
 | .fZ r e s,.fZ r' e' s'=>decide (r=r')&&uU e e'&&decide (s=s')
 | .oX a p,.oX b q=>decide (a.data.toList=b.data.toList)&&decide (p=q)
 | .jt m s l,.jt m' s' l'=>mr m m'&&decide (s=s')&&decide (l=l')
 | .jL,.jL=>true
 | .dead,.dead=>true
 | .hole,.hole=>true
 | _,_=>false
def uV:U→U→Bool
 | [],[]=>true
 | a::l,b::m=>Hr a b&&uV l m
 | _,_=>false
def zg(s t:St):Bool:=uU s.env t.env&&uV s.H t.H&&decide (s.marks=t.marks)&&(s.fL == t.fL)
def Hs:Out→Out→Bool
 | .norm s,.norm t=>zg s t
 | .exit i s,.exit j t=>decide (i=j)&&zg s t
 | .ret s,.ret t=>zg s t
 | _,_=>false
def Ht(a b:D×U):Bool:=mr a.1 b.1&&uV a.2 b.2
def once{α:Type}(eq:α→α→Bool):List α→List α
 | []=>[]
 | [a]=>[a]
 | a::l=>let m:=once eq l;if m.any (eq a)then m else a::m
def oH{α β:Type}:List α→(α→Option (List β))→Option (List β)
 | [],_=>some []
 | [a],f=>f a
 | a::l,f=>match f a,oH l f with
  | some x,some y=>some (x++y)
  | _,_=>none
abbrev sU:=FuncId→List D→U→Option (List (D×U))
abbrev wk:=IR→St→Option (List Out)
def PI(s:St)(args:List D):List Nat:=dedup (args.map (fX s.H 40)).flatten
def Gb(cl:sU)(e:fo)(f:FuncId)(s:St):Option (List St):=
 match iM s.env.get e.op with
 | none=>none
 | some (f',args)=>if f'=f then(match cl f (args.map (eS (fun _=>none) s.H 40)) []with
  | some l=>oH l fun p=>match after s e.dst args p.1 p.2 with
   | some s'=>some [s']
   | none=>none
  | none=>none)else none
def J3(T:gb)(cl:sU)(e:fo)(s:St):Option (List St):=
 match iM s.env.get e.op with
 | none=>none
 | some (f,args)=>match T.fn f with
  | none=>none
  | some fn=>
   match fn.full with
   | true=>match cl f args s.H with
    | some l=>some (l.map fun p=>{ s with env:=put s.env e.dst p.1,H:=p.2 })
    | none=>none
   | false=>if fn.fz&&s.marks.isEmpty && !fm args then Gb cl e f (jF (PI s args) s)else Gb cl e f s
def J6(T:gb)(rd:wk)(e:fo)(s:St)(v:Nat)(args:List D):Option (List St):=
 match s.H[v]? with
 | some (.fZ rf env0 .ready)=>match T.round rf with
  | some Rd=>if args.length=Rd.params.length then
    match rd Rd.a { env:=px Rd.params args env0,H:=s.H,fL:=true }with
    | some la=>match oH la fun o=>match o with
      | .norm s1=>match s1.H[v]? with
       | some (.fZ PM jj .ready)=>if PM=rf then rd Rd.b { s1 with H:=s1.H.set v (.fZ rf jj .busy) }else none
       | _=>none
      | _=>none with
     | some lb=>oH lb fun o=>match o.st.H[v]? with
      | some (.fZ PN ja .busy)=>if PN=rf then some [{ s with env:=put s.env e.dst (.b !o.stop),H:=o.st.H.set v (.fZ rf ja o.uq) }]else none
      | _=>none
     | none=>none
    | none=>none
   else none
  | none=>none
 | _=>none
def J5(e:fo)(s:St)(x:X):Option (List St):=
 match ev s.env.get x with
 | .ptr v 0 0=>match s.H[v]? with
  | some (.jt (.omap m) since seen)=>match s.H[m]? with
   | some (.map _ es)=>if es.length=since then
     let left:=(List.range es.length).filter fun i => !seen.contains i
     if left.isEmpty then some [{ s with env:=put s.env e.dst (.tup [.b false]) }]else
      some (left.filterMap fun i=>match es[i]? with
       | some (k,d)=>some { s with env:=put s.env e.dst (.tup [.b true,.val k,d]),H:=s.H.set v (.jt (.omap m) since (seen ++ [i])) }
       | none=>none)
    else none
   | _=>none
  | _=>none
 | _=>none
def rA(T:gb)(cl:sU)(rd:wk):List fo→St→Option (List St)
 | [],s=>some [s]
 | e::r,s=>match guardOf s.env.get e.guard with
  | none=>none
  | some false=>rA T cl rd r { s with env:=put s.env e.dst (.val undef) }
  | some true=>match ft s.env.get s.H s.H.length e.op with
   | some (d,δ)=>rA T cl rd r { s with env:=put s.env e.dst d,H:=δ.app s.H (Al.last s.H) }
   | none=>match kG s.env.get s.H s.H.length e.op with
    | some (d,δ)=>rA T cl rd r { s with env:=put s.env e.dst d,H:=δ.app s.H (Al.last s.H) }
    | none=>match e.op with
     | .nextM x=>match J5 e s x with
      | some l=>oH l fun s'=>rA T cl rd r s'
      | none=>none
     | _=>match yieldOf s.env.get e.op with
      | some (v,args)=>match J6 T rd e s v args with
       | some l=>oH l fun s'=>rA T cl rd r s'
       | none=>none
      | none=>match iM s.env.get e.op with
       | none=>none
       | some _=>match J3 T cl e s with
        | some l=>oH l fun s'=>rA T cl rd r s'
        | none=>none
def VF:gp→Bool
 | .callN _ _=>true
 | _=>false
def sQ(T:gb)(cl:sU)(st:Bool):List fo→St→Option (List Rc×St)
 | [],s=>some ([],s)
 | e::r,s=>match guardOf s.env.get e.guard with
  | none=>none
  | some false=>match sQ T cl st r { s with env:=put s.env e.dst (.val undef) }with
   | some (rs,s')=>some (⟨[],[]⟩::rs,s')
   | none=>none
  | some true=>match ft s.env.get s.H s.H.length e.op with
   | some (d,δ)=>match sQ T cl st r { s with env:=put s.env e.dst d,H:=δ.app s.H (Al.last s.H) }with
    | some (rs,s')=>some (⟨fu s.env.get s.H e.op,im s.H.length δ⟩::rs,s')
    | none=>none
   | none=>match iM s.env.get e.op with
    | none=>none
    | some (f,args)=>match T.fn f with
     | none=>none
     | some fn=>if fn.full||(st&&fn.fz && !fm args && !VF e.op)then none else match cl f (args.map (eS (fun _=>none) s.H 40)) []with
      | some [(d,[])]=>if (if fm args then closed d else flat d)then(match sQ T cl st r { s with env:=put s.env e.dst d }with
       | some (rs,s')=>some (⟨fu s.env.get s.H e.op,[]⟩::rs,s')
       | none=>none)else(match e.op with
       | .callN _ _=>match (args.map (fX s.H 40)).flatten with
        | v::l=>if (l.all fun u=>decide (u=v))&&(rowsOf s.H v).isSome&&fm (args.map (eS (fun _=>none) s.H 40))&&closed d then(match sQ T cl st r { s with env:=put s.env e.dst d,H:=s.H.set v .dead }with
         | some (rs,s')=>some (⟨fu s.env.get s.H e.op,[(v,none)]⟩::rs,s')
         | none=>none)else none
        | []=>none
       | _=>none)
      | some [(d,[ob])]=>match e.op with
       | .callN _ _=>if (if fm args then kE d&&lG ob else mD d&&mJ ob)then(match sQ T cl st r { s with env:=put s.env e.dst (iO s.H.length d),H:=s.H ++ [ob] }with
        | some (rs,s')=>some (⟨fu s.env.get s.H e.op,[(s.H.length,none)]⟩::rs,s')
        | none=>none)else none
       | _=>none
      | _=>none
def nW(T:gb)(cl:sU)(lp:Nat→List Nat→IR→St→Option (List Out))(rd:wk):IR→St→Option (List Out)
 | .skip,s=>some [.norm s]
 | .ops l,s=>match rA T cl rd l s with
  | some l=>some (l.map .norm)
  | none=>none
 | .draw ic l,s=>match sQ T cl true l s with
  | some (rs,s')=>if qz ic rs then some [.norm s']else none
  | none=>if s.marks.isEmpty then(match sQ T cl false l (jF (List.range s.H.length) s)with
   | some (rs,s')=>if qz ic rs then some [.norm s']else none
   | none=>none)else none
 | .kh ..,_=>none
 | .seq a b,s=>match nW T cl lp rd a s with
  | some l=>oH l fun o=>match o with
   | .norm s'=>nW T cl lp rd b s'
   | o=>some [o]
  | none=>none
 | .cond c a b,s=>match ev s.env.get c with
  | .val (.bool true)=>nW T cl lp rd a s
  | .val (.bool false)=>nW T cl lp rd b s
  | _=>none
 | .block id live a,s=>match nW T cl lp rd a s with
  | some l=>some (once Hs (l.map (kJ id s.H.length live)))
  | none=>none
 | .loop live a,s=>lp s.H.length live a { s with env:=forget live s.env }
 | .kF rf live x,s=>if s.fL then none else match ev s.env.get x with
  | .fn (.func f) first cap=>match T.fn f with
   | some fn=>if fn.full then
     match cl f (first ++ [.gO (s.H.length+1)]++cap) (s.H ++ [.jL,.fZ rf (forget live s.env) .ready])with
     | some l=>oH l fun p=>match p.2[s.H.length+1]? with
      | some (.fZ PL _ st)=>if PL=rf then(match vT { s with H:=p.2.set (s.H.length+1) .dead,marks:=s.H.length::s.marks } st with
       | some o=>some [o]
       | none=>none)else none
      | _=>none
     | none=>none
    else none
   | none=>none
  | _=>none
 | .exit id,s=>some [.exit id s]
 | .ret,s=>some [.ret s]
 | .bad,_=>none
 | .fz _ _,_=>none
 | .qf _ _ _,_=>none
abbrev qL:=List (FuncId×List D×List (D×U))
def AT:qL→FuncId→List D→Option (List (D×U))
 | [],_,_=>none
 | (g,rQ,l)::M,f,args=>match Nat.beq g f with
  | true=>match o6 rQ args with
   | true=>some l
   | false=>AT M f args
  | false=>AT M f args
def known(M:qL)(f:FuncId)(args:List D):U→Option (List (D×U))
 | []=>AT M f args
 | _=>none
mutual
def vY(T:gb)(M:qL):Nat→Nat→List Nat→IR→St→Option (List Out)
 | 0,_,_,_,_=>none
 | k+1,n,live,a,s=>match nW T (run T M k) (vY T M k) (xW T M k) a s with
  | some l=>oH l fun o=>match o with
   | .norm s'=>vY T M k n live a (cut n live s')
   | o=>some [o]
  | none=>none
def xW(T:gb)(M:qL):Nat→wk
 | 0,_,_=>none
 | k+1,c,s=>nW T (run T M k) (vY T M k) (xW T M k) c s
def run(T:gb)(M:qL):Nat→sU
 | 0,_,_,_=>none
 | k+1,f,args,H=>match known M f args H with
  | some l=>some l
  | none=>match T.fn f with
  | none=>none
  | some fn=>if args.length≤fn.ntmps then(match nW T (run T M k) (vY T M k) (xW T M k) fn.body { env:=pj args,H:=H }with
   | some l=>match oH l fun o=>match finish fn fn.own H.length o with
     | some p=>some [p]
     | none=>none with
    | some ps=>some (once Ht ps)
    | none=>none
   | none=>none)else none
end
end Go.AL
namespace Go.AL
open Go
theorem MC{a b:Value}(h:Ea a b=true):a=b:=by
 unfold Ea at h
 split at h
 ·simp only[ah,decide_eq_true_eq]at h;rw[h.1,h.2]
 ·simp only[beq_iff_eq]at h;rw[h]
 ·rename_i a b
  simp only[decide_eq_true_eq]at h
  have:a=b:=by
   cases a;cases b
   congr 1
   exact ea h
  rw[this]
 ·rfl
 ·simp only[ah,cD]at h
  rw[show _ = #[]from ea h.1,show _ = #[]from ea h.2]
 ·cases h
mutual
theorem zf:∀ {a b:D},mr a b=true→a=b
 | .any,b,h=>by cases b<;>simp[mr]at h ⊢
 | .val a,b,h=>by
  cases b<;>simp[mr]at h ⊢
  exact MC h
 | .agg a,b,h=>by
  cases b<;>simp[mr]at h ⊢
  exact r8 h
 | .tup a,b,h=>by
  cases b<;>simp[mr]at h ⊢
  exact r8 h
 | .sl n a,b,h=>by
  cases b<;>simp[mr]at h ⊢
  exact⟨h.1,Mz h.2⟩
 | .emp,b,h=>by cases b<;>simp[mr]at h ⊢
 | .eN a1 a2 a3 a4 a5,b,h=>by
  cases b<;>simp[mr]at h ⊢
  simp[h]
 | .ptr a1 a2 a3,b,h=>by
  cases b<;>simp[mr]at h ⊢
  simp[h]
 | .eZ a,b,h=>by
  cases b<;>simp[mr]at h ⊢
  exact r8 h
 | .omap a,b,h=>by cases b<;>simp[mr]at h ⊢;exact h
 | .gO a,b,h=>by cases b<;>simp[mr]at h ⊢;exact h
 | .fn f a a',b,h=>by
  cases f<;>cases b<;>first|(simp[mr]at h;done)|skip
  rename_i f g b b'
  cases g<;>simp[mr]at h ⊢
  exact⟨h.1.1,r8 h.1.2,r8 h.2⟩
theorem r8:∀ {a b:List D},o6 a b=true→a=b
 | [],[],_=>rfl
 | a::l,b::m,h=>by
  simp only[o6,ah]at h
  rw[zf h.1,r8 h.2]
 | [],_::_,h=>by simp[o6]at h
 | _::_,[],h=>by simp[o6]at h
theorem Mz:∀ {a b:List (List D)},wP a b=true→a=b
 | [],[],_=>rfl
 | a::l,b::m,h=>by
  simp only[wP,ah]at h
  rw[r8 h.1,Mz h.2]
 | [],_::_,h=>by simp[wP]at h
 | _::_,[],h=>by simp[wP]at h
end
theorem Ho:∀ {a b:Env},uU a b=true→a=b
 | [],[],_=>rfl
 | (i,a)::l,(j,b)::m,h=>by
  simp only[uU,ah,decide_eq_true_eq]at h
  rw[h.1.1,zf h.1.2,Ho h.2]
 | [],_::_,h=>by simp[uU]at h
 | _::_,[],h=>by simp[uU]at h
theorem MA:∀ {a b:List (Value×D)},wQ a b=true→a=b
 | [],[],_=>rfl
 | (i,a)::l,(j,b)::m,h=>by
  simp only[wQ,ah]at h
  rw[MC h.1.1,zf h.1.2,MA h.2]
 | [],_::_,h=>by simp[wQ]at h
 | _::_,[],h=>by simp[wQ]at h
theorem Sh{a b:Ob}(h:Hr a b=true):a=b:=by
 unfold Hr at h
 split at h
 ·simp only[ah,decide_eq_true_eq]at h;rw[h.1.1,h.1.2,r8 h.2]
 ·simp only[ah,decide_eq_true_eq]at h;rw[h.1,MA h.2]
 ·simp only[ah,decide_eq_true_eq]at h;rw[h.1.1,Ho h.1.2,h.2]
 ·rename_i a p b q
  simp only[ah,decide_eq_true_eq]at h
  have:a=b:=by
   cases a;cases b
   congr 1
   exact ea h.1
  rw[this,h.2]
 ·simp only[ah,decide_eq_true_eq]at h;rw[zf h.1.1,h.1.2,h.2]
 ·rfl
 ·rfl
 ·rfl
 ·cases h
theorem Hq:∀ {a b:U},uV a b=true→a=b
 | [],[],_=>rfl
 | a::l,b::m,h=>by
  simp only[uV,ah]at h
  rw[Sh h.1,Hq h.2]
 | [],_::_,h=>by simp[uV]at h
 | _::_,[],h=>by simp[uV]at h
theorem Hu{a b:St}(h:zg a b=true):a=b:=by
 obtain⟨e,H,m,r⟩:=a
 obtain⟨e',H',m',r'⟩:=b
 simp only[zg,ah,decide_eq_true_eq,beq_iff_eq]at h
 obtain⟨⟨⟨h1,h2⟩,h3⟩,h4⟩:=h
 rw[Ho h1,Hq h2,h3,h4]
theorem Si{a b:Out}(h:Hs a b=true):a=b:=by
 unfold Hs at h
 split at h
 ·rw[Hu h]
 ·simp only[ah,decide_eq_true_eq]at h;rw[h.1,Hu h.2]
 ·rw[Hu h]
 ·cases h
theorem Sj{a b:D×U}(h:Ht a b=true):a=b:=by
 simp only[Ht,ah]at h
 exact ef (zf h.1) (Hq h.2)
theorem FT{α:Type}{eq:α→α→Bool}(h:∀ a b,eq a b=true→a=b):∀ {l:List α} {a:α},a∈l→a∈once eq l
 | [a],b,hb=>hb
 | a::b::l,c,hc=>by
  rw[once]
  ·split
   ·rename_i TH
    rcases au.1 hc with rfl|hc
    ·obtain⟨d,hd,Ii⟩:=dA.1 TH
     rw[h _ _ Ii];exact hd
    ·exact FT h hc
   ·rcases au.1 hc with rfl|hc
    ·exact cu
    ·exact aU _ (FT h hc)
  ·intro e;cases e
theorem rP{α β:Type}{f:α→Option (List β)}:∀ {l:List α} {r:List β},oH l f=some r→∀ a∈l,∃ y,f a=some y∧∀ b∈y,b∈r
 | [],r,_,a,ha=>by simp at ha
 | [a],r,h,b,hb=>by
  simp only[List.mem_singleton]at hb
  subst hb
  exact⟨r,h,fun _ h=>h⟩
 | a::b::l,r,h,c,hc=>by
  rw[oH]at h
  ·split at h
   ·rename_i x y hx hy
    cases h
    rcases au.1 hc with rfl|hc
    ·exact⟨x,hx,fun _ h=>aP _ h⟩
    ·obtain⟨z,hz,Vs⟩:=rP hy c hc
     exact⟨z,hz,fun d hd=>bq _ (Vs d hd)⟩
   ·cases h
  ·intro e;cases e
section
variable{T:gb}{cl:sU}{rd:wk}
def qK(l:List Out):ml→Prop:=fun r=>∃ o∈l,r = .out o
def yE(l:List St):ml→Prop:=fun r=>∃ s∈l,r = .out (.norm s)
def oY(l:List (D×U)):ml→Prop:=fun r=>∃ p∈l,r = .val p.1 p.2
def n3(T:gb)(cl:sU):Prop:=∀ f args H l,cl f args H=some l→Ev T (.call f args H) (oY l)
def Dy(T:gb)(rd:wk):Prop:=∀ c s l,rd c s=some l→Ev T (.code c s) (qK l)
theorem qK.out{l:List Out}{o:Out}(h:qK l (.out o)):o∈l:=by
 obtain⟨o',h1,h2⟩:=h
 cases h2;exact h1
theorem oY.val{l:List (D×U)}{d:D}{H:U}(h:oY l (.val d H)):(d,H)∈l:=by
 obtain⟨o',h1,h2⟩:=h
 cases h2;exact h1
theorem yE.sub{a b:List St}(h:∀ s∈a,s∈b){r:ml}(hr:yE a r):yE b r:=by
 obtain⟨s,h1,h2⟩:=hr
 exact⟨s,h s h1,h2⟩
theorem qK.sub{a b:List Out}(h:∀ s∈a,s∈b){r:ml}(hr:qK a r):qK b r:=by
 obtain⟨s,h1,h2⟩:=hr
 exact⟨s,h s h1,h2⟩
theorem S6{S:List Nat}{s:St}{g:Option (Nat×Bool)}{b:Bool}(h:guardOf s.env.get g=some b):guardOf (jF S s).env.get g=some b:=by
 cases g with
 | none=>exact h
 | some p=>
  simp only[guardOf,jF]at h ⊢
  have e:Env.get (s.env.map fun p=>(p.1,eS (fM (jT s.H S)) s.H 40 p.2)) p.1=eS (fM (jT s.H S)) s.H 40 (s.env.get p.1):=by
   generalize s.env=env
   induction env with
   | nil=>rfl
   | cons q r ih=>
    obtain⟨j,d⟩:=q
    simp only[List.map_cons,Env.qX]
    split
    ·rfl
    ·exact ih
  rw[e]
  split at h
  ·rename_i x hx
   rw[hx]
   have:eS (fM (jT s.H S)) s.H 40 (.val (.bool x)) = .val (.bool x):=by unfold eS;rfl
   rw[this]
   exact h
  ·rename_i vs hx
   rw[hx]
   have:eS (fM (jT s.H S)) s.H 40 (.val (.tuple vs)) = .val (.tuple vs):=by unfold eS;rfl
   rw[this]
   exact h
  ·cases h
theorem P6(fE:n3 T cl){e:fo}{r:List fo}{f:FuncId}{fn:eQ}{s:St}{l:List St}{R:ml→Prop}(hg:guardOf s.env.get e.guard=some true)(hf:T.fn f=some fn)(hp:fn.full=false)
  (h:Gb cl e f s=some l) (k:∀ s'∈l,Ev T (.ops r s') R):Ev T (.ops (e::r) s) R:=by
 unfold Gb at h
 split at h
 ·cases h
 ·rename_i f' args hc
  split at h
  ·rename_i e1
   subst e1
   split at h
   ·rename_i l0 il
    have hm:=rP h
    refine .yU hg hc hf hp (fE _ _ _ _ il) (fun d Hn hd=>?_) fun d Hn s' hd fH=>?_
    ·obtain⟨y,hy,_⟩:=hm _ hd.val
     dsimp only at hy
     split at hy
     ·rename_i q;rw[q];rfl
     ·cases hy
    ·obtain⟨y,hy,je⟩:=hm _ hd.val
     dsimp only at hy
     rw[fH]at hy
     cases hy
     exact k s' (je s' (by simp))
   ·cases h
  ·cases h
theorem ab4(fE:n3 T cl){e:fo}{r:List fo}{s:St}{l:List St}{R:ml→Prop}(hg:guardOf s.env.get e.guard=some true)
  (h:J3 T cl e s=some l) (k:∀ s'∈l,Ev T (.ops r s') R):Ev T (.ops (e::r) s) R:=by
 unfold J3 at h
 split at h
 ·cases h
 ·rename_i f args hc
  split at h
  ·cases h
  ·rename_i fn hf
   split at h
   ·rename_i sn
    split at h
    ·rename_i l0 il
     cases h
     refine .yT hg hc hf sn (fE _ _ _ _ il) fun d H' hd=>k _ ?_
     exact av.2 ⟨(d,H'),hd.val,rfl⟩
    ·cases h
   ·rename_i sn
    split at h
    ·rename_i hJ
     simp only[ah,cD]at hJ
     refine .jF (PI s args) ?_ (P6 fE (S6 hg) hf sn h k)
     rw[hJ.1.2];rfl
    ·exact P6 fE hg hf sn h k
theorem ab6(rh:Dy T rd){e:fo}{r:List fo}{s:St}{v:Nat}{args:List D}{l:List St}{R:ml→Prop}(hg:guardOf s.env.get e.guard=some true)(hc:yieldOf s.env.get e.op=some (v,args))
  (h:J6 T rd e s v args=some l) (k:∀ s'∈l,Ev T (.ops r s') R):Ev T (.ops (e::r) s) R:=by
 unfold J6 at h
 split at h
 ·rename_i rf env0 hv
  split at h
  ·rename_i Rd hR
   split at h
   ·rename_i hl
    split at h
    ·rename_i la tN
     split at h
     ·rename_i lb Uq
      have hA:=rP Uq
      have hB:=rP h
      refine .DI hg hc hv hR hl (rh _ _ _ tN) (Rb:=qK lb) (fun o ho=>?_) (fun s1 jj ki jP=>?_) (fun o ho=>?_) fun o ja ho mQ=>?_
      ·obtain⟨y,hy,_⟩:=hA o ho.out
       split at hy
       ·rename_i s1
        split at hy
        ·rename_i PM jj jP
         split at hy
         ·rename_i e1;subst e1;exact⟨rfl,jj,jP⟩
         ·cases hy
        ·cases hy
       ·cases hy
      ·obtain⟨y,hy,je⟩:=hA _ ki.out
       simp only[jP,if_true]at hy
       exact(rh _ _ _ hy).mono fun r hr=>hr.sub je
      ·obtain⟨y,hy,_⟩:=hB o ho.out
       split at hy
       ·rename_i PN ja mQ
        split at hy
        ·rename_i e2;subst e2;exact⟨ja,mQ⟩
        ·cases hy
       ·cases hy
      ·obtain⟨y,hy,je⟩:=hB o ho.out
       simp only[mQ,if_true]at hy
       cases hy
       exact k _ (je _ (by simp))
     ·cases h
    ·cases h
   ·cases h
  ·cases h
 ·cases h
theorem ab5{e:fo}{r:List fo}{s:St}{x:X}{l:List St}{R:ml→Prop}(hg:guardOf s.env.get e.guard=some true)(gf:e.op = .nextM x)
  (h:J5 e s x=some l) (k:∀ s'∈l,Ev T (.ops r s') R):Ev T (.ops (e::r) s) R:=by
 unfold J5 at h
 split at h
 ·rename_i v hx
  split at h
  ·rename_i m since seen hv
   split at h
   ·rename_i kk es hm
    split at h
    ·rename_i hs
     dsimp only at h
     refine .next hg gf hx hv hm hs (fun h0=>?_) fun i kv d hi ET=>?_
     ·rw[if_pos]at h
      ·cases h
       exact k _ (by simp)
      ·rw[cD,cL]
       intro i hi
       have:=h0 i (by simpa using hi)
       simpa using this
     ·have fj:=(ae.1 hi).1
      rw[if_neg]at h
      ·cases h
       refine k _ (bS.2 ⟨i,aI.2 ⟨by simpa using fj,by simpa using ET⟩,?_⟩)
       simp only[hi]
      ·rw[cD,cL]
       intro h0
       have:=h0 i (by simpa using fj)
       simp at this
       exact ET this
    ·cases h
   ·cases h
  ·cases h
 ·cases h
theorem A3(fE:n3 T cl)(rh:Dy T rd):∀ (l:List fo) (s:St) (r:List St),rA T cl rd l s=some r→Ev T (.ops l s) (yE r)
 | [],s,r,h=>by cases h;exact .nil ⟨s,by simp,rfl⟩
 | e::r,s,res,h=>by
  have go:∀ {l:List St},(oH l fun s'=>rA T cl rd r s')=some res→∀ s'∈l,Ev T (.ops r s') (yE res):=fun hl s' fH=>by
   obtain⟨y,hy,je⟩:=rP hl s' fH
   exact(A3 fE rh r s' y hy).mono fun _ hr=>hr.sub je
  simp only[rA]at h
  split at h
  ·cases h
  ·rename_i hg;exact .off hg (A3 fE rh r _ _ h)
  ·rename_i hg
   split at h
   ·rename_i d δ ha;exact .op hg ha (A3 fE rh r _ _ h)
   ·split at h
    ·rename_i d δ ha;exact .v8 hg ha (A3 fE rh r _ _ h)
    ·split at h
     ·rename_i x gf
      split at h
      ·rename_i l hl;exact ab5 hg gf hl (go h)
      ·cases h
     ·split at h
      ·rename_i v args hc
       split at h
       ·rename_i l hl;exact ab6 rh hg hc hl (go h)
       ·cases h
      ·split at h
       ·cases h
       ·rename_i hc
        split at h
        ·rename_i l hl;exact ab4 fE hg hl (go h)
        ·cases h
theorem vZ(fE:n3 T cl)(st:Bool):∀ (l:List fo) (s:St) (rs:List Rc) (s':St),sQ T cl st l s=some (rs,s')→Ev T (.trace l s) (fun r=>r = .tr rs s')
 | [],s,rs,s',h=>by cases h;exact .Bi rfl
 | e::r,s,rs,s',h=>by
  simp only[sQ]at h
  split at h
  ·cases h
  ·rename_i hg
   split at h
   ·rename_i h1;cases h;exact .Bj hg (vZ fE st r _ _ _ h1) fun _ _ h=>by cases h;rfl
   ·cases h
  ·rename_i hg
   split at h
   ·rename_i d δ ha
    split at h
    ·rename_i h1;cases h;exact .Bk hg ha (vZ fE st r _ _ _ h1) fun _ _ h=>by cases h;rfl
    ·cases h
   ·split at h
    ·cases h
    ·rename_i f args hc
     split at h
     ·cases h
     ·rename_i fn hf
      split at h
      ·cases h
      ·rename_i sn
       have pa:fn.full=false:=by
        simp only[cg,not_or]at sn
        simpa using sn.1
       split at h
       ·rename_i d il
        by_cases hr:(if fm args=true then closed d else flat d)=true
        ·rw[if_pos hr]at h
         split at h
         ·rename_i h1;cases h
          refine .Bf hg hc hf pa (fE _ _ _ _ il) (fun d' Hn hd=>?_) hr (vZ fE st r _ _ _ h1) fun _ _ h=>by cases h;rfl
          have:=hd.val
          simp only[List.mem_singleton,dR]at this
          exact this
         ·cases h
        ·rw[if_neg hr]at h
         split at h
         ·rename_i g rQ gf
          split at h
          ·rename_i v l gL
           split at h
           ·rename_i hJ
            simp only[ah,ao,decide_eq_true_eq]at hJ
            obtain⟨⟨⟨c1,c2⟩,c3⟩,c4⟩:=hJ
            split at h
            ·rename_i h1;cases h
             have l4:some (g,rQ.map (ev s.env.get))=some (f,args):=by rw[← hc,gf];rfl
             cases l4
             refine .Bh (v:=v) hg gf rfl hf pa (fun u hu=>?_) (by rw[gL];simp) c2 c3 (fE _ _ _ _ il) (fun d' Hn hd=>?_) c4 (vZ fE st r _ _ _ h1) fun _ _ h=>by cases h;rfl
             ·rw[gL]at hu
              rcases au.1 hu with h|h
              ·exact h
              ·exact c1 u h
             ·have:=hd.val
              simp only[List.mem_singleton,dR]at this
              exact this
            ·cases h
           ·cases h
          ·cases h
         ·cases h
       ·rename_i d ob il
        split at h
        ·rename_i g rQ gf
         by_cases hr:(if fm args=true then kE d&&lG ob else mD d&&mJ ob)=true
         ·rw[if_pos hr]at h
          split at h
          ·rename_i h1;cases h
           have l4:some (g,rQ.map (ev s.env.get))=some (f,args):=by rw[← hc,gf];rfl
           cases l4
           refine .Bg hg gf rfl hf pa (fE _ _ _ _ il) (fun d' Hn hd=>?_) hr (vZ fE st r _ _ _ h1) fun _ _ h=>by cases h;rfl
           have:=hd.val
           simp only[List.mem_singleton,dR]at this
           exact this
          ·cases h
         ·rw[if_neg hr]at h;cases h
        ·cases h
       ·cases h
theorem J4(fE:n3 T cl)(rh:Dy T rd){lp:Nat→List Nat→IR→St→Option (List Out)}(Uv:∀ n live a s l,lp n live a s=some l→Ev T (.loop n live a s) (qK l)) :
  ∀ (c:IR) (s:St) (l:List Out),nW T cl lp rd c s=some l→Ev T (.code c s) (qK l):=by
 intro c
 induction c with
 | skip=>intro s l h;cases h;exact .skip ⟨_,by simp,rfl⟩
 | ops ops=>
  intro s l h
  simp only[nW]at h
  split at h
  ·rename_i l0 h1
   cases h
   refine .y9 ((A3 fE rh _ _ _ h1).mono fun r hr=>?_)
   obtain⟨s',fH,rfl⟩:=hr
   exact⟨_,av.2 ⟨s',fH,rfl⟩,rfl⟩
  ·cases h
 | kh ic ops es=>intro s l h;simp[nW]at h
 | draw ic ops=>
  intro s l h
  simp only[nW]at h
  split at h
  ·rename_i rs s' h1
   split at h
   ·rename_i hp;cases h;exact .draw (vZ fE _ _ _ _ _ h1) fun _ _ h=>by cases h;exact⟨hp,_,by simp,rfl⟩
   ·cases h
  ·split at h
   ·rename_i hm
    split at h
    ·rename_i rs s' h1
     split at h
     ·rename_i hp;cases h
      refine .zl (List.range s.H.length) ?_ (.draw (vZ fE _ _ _ _ _ h1) fun _ _ h=>by cases h;exact⟨hp,_,by simp,rfl⟩)
      rw[cD]at hm
      rw[hm];rfl
     ·cases h
    ·cases h
   ·cases h
 | seq a b mR rl=>
  intro s l h
  simp only[nW]at h
  split at h
  ·rename_i l0 h1
   have hm:=rP h
   refine .seq (mR _ _ h1) (fun s' fH=>?_) fun o ho eX=>?_
   ·obtain⟨y,hy,je⟩:=hm _ fH.out
    exact(rl _ _ hy).mono fun _ hr=>hr.sub je
   ·obtain⟨y,hy,je⟩:=hm _ ho.out
    cases o with
    | norm=>cases eX
    | exit id s'=>cases hy;exact⟨_,je _ (by simp),rfl⟩
    | ret s'=>cases hy;exact⟨_,je _ (by simp),rfl⟩
  ·cases h
 | cond c a b mR rl=>
  intro s o h
  simp only[nW]at h
  split at h
  ·rename_i hc;exact .cond (x:=true) hc (mR _ _ h)
  ·rename_i hc;exact .cond (x:=false) hc (rl _ _ h)
  ·cases h
 | block id live a mR=>
  intro s l h
  simp only[nW]at h
  split at h
  ·rename_i l0 h1
   cases h
   refine .block (mR _ _ h1) fun o ho=>⟨_,FT (fun _ _=>Si) (av.2 ⟨o,ho.out,rfl⟩),rfl⟩
  ·cases h
 | loop live a mR=>intro s o h;exact .loop (Uv _ _ _ _ _ h)
 | kF rf live x=>
  intro s l h
  simp only[nW]at h
  split at h
  ·cases h
  ·rename_i ma
   split at h
   ·rename_i f first cap hx
    split at h
    ·rename_i fn hf
     split at h
     ·rename_i sn
      split at h
      ·rename_i l0 il
       have hm:=rP h
       refine .kF (by simpa using ma) hx hf sn (fE _ _ _ _ il) fun d H' hd=>?_
       obtain⟨y,hy,je⟩:=hm _ hd.val
       dsimp only at hy
       split at hy
       ·rename_i PL env st lZ
        split at hy
        ·rename_i e;subst e
         split at hy
         ·rename_i o ho
          cases hy
          exact⟨env,st,o,lZ,ho,_,je _ (by simp),rfl⟩
         ·cases hy
        ·cases hy
       ·cases hy
      ·cases h
     ·cases h
    ·cases h
   ·cases h
 | exit id=>intro s o h;cases h;exact .exit ⟨_,by simp,rfl⟩
 | ret=>intro s o h;cases h;exact .ret ⟨_,by simp,rfl⟩
 | bad=>intro s o h;cases h
 | fz _ _=>intro s o h;cases h
 | qf _ _ _=>intro s o h;cases h
end
section
variable{T:gb}
def rK(T:gb)(M:qL):Prop:=∀ p∈M,Ev T (.call p.1 p.2.1 []) (oY p.2.2)
theorem rK.nil(T:gb):rK T []:=fun p hp=>by cases hp
theorem rK.cons{T:gb}{f:FuncId}{args:List D}{l:List (D×U)}{M:qL}(h:Ev T (.call f args []) (oY l))(t:rK T M):rK T ((f,args,l)::M):=fun p hp=>by
 rcases au.1 hp with rfl|hp
 ·exact h
 ·exact t p hp
theorem abI{M:qL}(hM:rK T M){f:FuncId}{args:List D}{l:List (D×U)}(h:AT M f args=some l):Ev T (.call f args []) (oY l):=by
 induction M with
 | nil=>cases h
 | cons p M ih=>
  obtain⟨g,rQ,l'⟩:=p
  have M9:rK T M:=fun q hq=>hM q (by simp[hq])
  simp only[AT]at h
  split at h
  ·rename_i hg
   split at h
   ·rename_i ha
    cases h
    have:=hM (g,rQ,l) (by simp)
    rw[r8 ha,cN hg]at this
    exact this
   ·exact ih M9 h
  ·exact ih M9 h
theorem P'{M:qL}(hM:rK T M):∀ k:Nat,(∀ n live a s l,vY T M k n live a s=some l→Ev T (.loop n live a s) (qK l))∧Dy T (xW T M k)∧n3 T (run T M k)
 | 0=>⟨fun _ _ _ _ _ h=>by simp[vY]at h,fun _ _ _ h=>by simp[xW]at h,fun _ _ _ _ h=>by simp[run]at h⟩
 | k+1=>by
  obtain⟨i1,i2,i3⟩:=P' hM k
  refine⟨fun n live a s l h=>?_,fun c s l h=>?_,fun f args H l h=>?_⟩
  ·simp only[vY]at h
   split at h
   ·rename_i l0 h1
    have hm:=rP h
    refine .tZ (J4 i3 i2 i1 _ _ _ h1) (fun s' fH=>?_) fun o ho eX=>?_
    ·obtain⟨y,hy,je⟩:=hm _ fH.out
     exact(i1 _ _ _ _ _ hy).mono fun _ hr=>hr.sub je
    ·obtain⟨y,hy,je⟩:=hm _ ho.out
     cases o with
     | norm=>cases eX
     | exit id s'=>cases hy;exact⟨_,je _ (by simp),rfl⟩
     | ret s'=>cases hy;exact⟨_,je _ (by simp),rfl⟩
   ·cases h
  ·simp only[xW]at h
   exact J4 i3 i2 i1 _ _ _ h
  ·simp only[run]at h
   split at h
   ·rename_i l0 hk
    cases h
    cases H with
    | nil=>exact abI hM hk
    | cons=>cases hk
   split at h
   ·cases h
   ·rename_i fn hf
    split at h
    ·rename_i hl
     split at h
     ·rename_i l0 h1
      split at h
      ·rename_i ps h2
       cases h
       have hm:=rP h2
       refine .call fn.own hf hl (J4 i3 i2 i1 _ _ _ h1) fun o ho=>?_
       obtain⟨y,hy,je⟩:=hm _ ho.out
       split at hy
       ·rename_i p hp
        cases hy
        exact⟨p.1,p.2,hp,p,FT (fun _ _=>Sj) (je _ (by simp)),rfl⟩
       ·cases hy
      ·cases h
     ·cases h
    ·cases h
theorem v7{M:qL}(hM:rK T M){k:Nat}{f:FuncId}{args:List D}{H:U}{l:List (D×U)}(h:run T M k f args H=some l):Ev T (.call f args H) (oY l):=(P' hM k).2.2 f args H l h
end
end Go.AL
namespace Go.AL
open Go
@[reducible] def o(k:Nat)(op:gp):fo:={ dst:=some k,op:=op,guard:=none }
@[reducible] def u(op:gp):fo:={ dst:=none,op:=op,guard:=none }
@[reducible] def og(j:Nat)(b:Bool)(k:Nat)(op:gp):fo:={ dst:=some k,op:=op,guard:=some (j,b) }
@[reducible] def ug(j:Nat)(b:Bool)(op:gp):fo:={ dst:=none,op:=op,guard:=some (j,b) }
@[reducible] def M(k j:Nat):fo:=o k (.mv (.t j))
@[reducible] def L(k j:Nat):fo:=o k (.ld1 (.t j))
@[reducible] def N(k n j:Nat):fo:=o k (.ldN n (.t j))
@[reducible] def F(k i j:Nat):fo:=o k (.fieldA i (.t j))
@[reducible] def A(k:Nat)(p:BinOp)(j:Nat)(n:Int):fo:=o k (.arith p (.t j) (.c (.i n)))
@[reducible] def B(k:Nat)(p:BinOp)(i j:Nat):fo:=o k (.arith p (.t i) (.t j))
@[reducible] def I(k n i j:Nat):fo:=o k (.idxA n (.t i) (.t j))
@[reducible] def cq(k:Nat)(n:Int):fo:=o k (.mv (.c (.i n)))
@[reducible] def sq(n i j:Nat):fo:=u (.stN n (.t i) (.t j))
@[reducible] def xq(k t j:Nat):fo:=o k (.box t (.t j))
@[reducible] def zq(k j:Nat):fo:=o k (.len .slice (.t j))
@[reducible] def pq(k a b:Nat):fo:=o k (.pick (.t a) (.c (.b true)) (.t b))
@[reducible] def rq(k a b:Nat):fo:=o k (.pick (.t a) (.t b) (.c (.b false)))
@[reducible] def kq(k f j:Nat):fo:=o k (.call f [.t j])
@[reducible] def G(i:Nat)(b:Bool)(k j:Nat):fo:=og i b k (.mv (.t j))
@[reducible] def fe(i:Nat)(b:Bool)(k j:Nat):fo:=og i b k (.ld1 (.t j))
@[reducible] def fh(i:Nat)(b:Bool)(k n j:Nat):fo:=og i b k (.fieldA n (.t j))
@[reducible] def fC(i:Nat)(b:Bool)(k:Nat)(p:BinOp)(j:Nat)(n:Int):fo:=og i b k (.arith p (.t j) (.c (.i n)))
@[reducible] def gJ(i:Nat)(b:Bool)(k:Nat)(p:BinOp)(j n:Nat):fo:=og i b k (.arith p (.t j) (.t n))
@[reducible] def nE(k:Nat):fo:=o k (.mv (.c .emp))
@[reducible] def nF(k:Nat):fo:=o k (.mv (.c (.b false)))
@[reducible] def nT(k:Nat):fo:=o k (.mv (.c (.b true)))
@[reducible] def Q(l:List fo)(b:IR):IR:=.seq (.ops l) b
@[reducible] def cx(n k:Nat):IR:=.cond (.t n) .skip (.exit k)
def nth:List (Option eQ)→Nat→Option eQ
 | [],_=>none
 | a::_,0=>a
 | _::l,n+1=>nth l n
def assoc:List (Nat×mW)→Nat→Option mW
 | [],_=>none
 | (k,R)::l,n=>if k=n then some R else assoc l n
def elem(f:Nat):List Nat→Bool
 | []=>false
 | a::l=>if a=f then true else elem f l
def GV(fn:Func):Code:=fn.body.getD .skip
def F7(P:Program)(rf:Nat):Array Tmp:=match ur P rf with
 | some (_,ps,_,_)=>ps
 | none=>#[]
def F4(P:Program)(rf:Nat):Code:=match ur P rf with
 | some (_,_,a,_)=>a
 | none=>.skip
def F5(P:Program)(rf:Nat):Code:=match ur P rf with
 | some (_,_,_,b)=>b
 | none=>.skip
section
variable{P:Program}{G:GT}
theorem SZ{f:FuncId}{fn:eQ}{func:Func}{code:Code}{hs fH:List (List Nat)}(h1:P.funcs[f]? = some func)(h2:func.body=some code)(h3:oL P f=true)(h4:(lQ code).length≤64)
  (h5:cC P G fn.ntmps (64*f) hs code=some (fn.body,fH)) (h6:func.ntmps=fn.ntmps) (h7:uM P func.results.toList=some fn.results):yC P G f fn:=⟨⟨func,code,hs,fH,h1,h2,h3,h4,h5,h6,h7⟩⟩
theorem F6{rf:Nat}{R:mW}{N:Nat}{ps:Array Tmp}{ac bc:Code}(ha hb:List (List Nat))(h1:G.rt rf=some (N,ps,ac,bc))(h2:ps.toList=R.params)(h3:(R.params.all fun p=>decide (p<N))=true)
  (h4:lQ ac = []∧lQ bc = []) (h5:cC P G N 0 ha ac=some (R.a,[])) (h6:cC P G N 0 hb bc=some (R.b,[])):s7 P G rf R:=
 ⟨⟨N,ps,ac,bc,h1,h2,h3,G1 (fun i x hx=>by rw[h4.1]at hx;cases hx) h5,G1 (fun i x hx=>by rw[h4.2]at hx;cases hx) h6⟩⟩
inductive rG(P:Program)(G:GT):Nat→List (Option eQ)→Prop
 | nil (k:Nat):rG P G k []
 | has {k:Nat} {fn:eQ} {l:List (Option eQ)} (h:yC P G k fn) (t:rG P G (k+1) l):rG P G k (some fn::l)
 | no {k:Nat} {l:List (Option eQ)} (t:rG P G (k+1) l):rG P G k (none::l)
inductive uH(P:Program)(G:GT):List (Nat×mW)→Prop
 | nil:uH P G []
 | cons {k:Nat} {R:mW} {l:List (Nat×mW)} (h:s7 P G k R) (t:uH P G l):uH P G ((k,R)::l)
theorem rG.get:∀ {l:List (Option eQ)} {k:Nat},rG P G k l→∀ (i:Nat) (fn:eQ),nth l i=some fn→yC P G (k+i) fn:=by
 intro l k h
 induction h with
 | nil=>intro i fn hi;cases hi
 | has h t ih=>
  intro i fn hi
  cases i with
  | zero=>cases hi;exact h
  | succ i=>
   have:=ih i fn hi
   rwa [br,dE 1 i]at this
 | no t ih=>
  intro i fn hi
  cases i with
  | zero=>cases hi
  | succ i=>
   have:=ih i fn hi
   rwa [br,dE 1 i]at this
theorem uH.get{l:List (Nat×mW)}(h:uH P G l):∀ (i:Nat) (R:mW),assoc l i=some R→s7 P G i R:=by
 induction h with
 | nil=>intro i R hi;cases hi
 | @cons k R0 l h t ih=>
  intro i R hi
  simp only[assoc]at hi
  split at hi
  ·rename_i e;subst e;cases hi;exact h
  ·exact ih i R hi
theorem acZ{l:List (Option eQ)}{r:List (Nat×mW)}{so:FuncId→Option Nat}(xt:G.rt=ur P)(h:rG P G 0 l)(h2:uH P G r){si:FuncId→Bool}(h3:∀ f sz,so f=some sz→rN P f sz)(h4:∀ f,si f=true→uI P f):GJ P G { fn:=nth l,round:=assoc r,sort:=so,pA:=si } where
 sort:=h3
 pA:=h4
 rt:=xt
 fn f fn hf:=by
  have:=h.get f fn hf
  rwa [bj]at this
 round:=h2.get
