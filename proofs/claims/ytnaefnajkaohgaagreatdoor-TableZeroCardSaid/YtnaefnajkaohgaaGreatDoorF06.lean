/- Part 6 of the proof of skewer.skewerlaw15.TableZero. -/
import Derived.Test.YtnaefnajkaohgaaGreatDoorF05
import Derived.Test.YtnaefnajkaohgaaGreatDoorF04
import Derived.KernelRfl
set_option linter.all false
namespace Go.AL
open Go
def CC(P:Program)(G:GT)(g:FuncId)(args:List D)(d:D)(Hn:U):Prop:=nB P g=true∧rF P G g args [] d Hn
def outs(R:lD→Prop):Out→Prop:=fun o=>R (.out o)
def wG(R:lD→Prop):D→U→Prop:=fun d H=>R (.val d H)
def Good(P:Program)(G:GT):s5→(lD→Prop)→Prop
 | .ops l s,R=>∀ (N:Nat) (A:Array Oper) (ops:List Oper),lG P G N A ops=some l →
   ∀ (ro:Option Nat) (n:Nat) (Q:Exit→Act→World→Prop) (c:Ctx) (w:World) (a:Act),(s.fM=false→ro=none)→iQ G N c w s a→qG G N s.H.length s.fM c s.H w (outs R) Q→wpListIn (FW ro) n P A Q ops a w
 | .code ir s,R=>∀ (N:Nat) (code:Code),kr P G N ir code →
   ∀ (ro:Option Nat) (n:Nat) (Q:Exit→Act→World→Prop) (c:Ctx) (w:World) (a:Act),(s.fM=false→ro=none)→iQ G N c w s a→qG G N s.H.length s.fM c s.H w (outs R) Q→code.wpIn (FW ro) n P Q a w
 | .loop n0 _ ir s,R=>n0≤s.H.length→∀ (N:Nat) (code:Code),kr P G N ir code →
   ∀ (ro:Option Nat) (n:Nat) (Q:Exit→Act→World→Prop) (c:Ctx) (w:World) (a:Act),(s.fM=false→ro=none)→iQ G N c w s a→qG G N n0 s.fM c s.H w (outs R) Q→Ca (FW ro) n P code Q a w
 | .call f args H,R=>pL P G f args H (wG R)
 | .trace l s,R=>∃ rs s',R (.tr rs s')∧s.H.length≤s'.H.length∧s'.marks=s.marks∧s'.fM=s.fM∧∀ (K k0:Nat),s'.H.length≤K→∃ items:List jT,items.map (·.e)=l∧items.map (·.rc)=rs∧items.map (·.k)=List.range' k0 l.length ∧
   Tx (CC P G) s.env.get (s.H++room (K-s.H.length)) items s'.env.get (s'.H++room (K-s'.H.length))
section
variable{P:Program}{G:GT}{T:fE}
theorem qG.mono{N n m:Nat}{fM:Bool}{c c1:Ctx}{H H1:U}{w w1:World}{R:Out→Prop}{Q:Exit→Act→World→Prop}(h:qG G N n fM c H w R Q)(hs:Step n c H w c1 H1 w1)(hm:n≤m):qG G N m fM c1 H1 w1 R Q:=
 fun o c' w' a' hR hr hl eA eH=>h o c' w' a' hR hr (Nat.le_trans hm hl) eA (hs.trans eH hm)
theorem xB{N:Nat}{A:Array Oper}{o:Oper}{r:List Oper}{l:List eV}(h:lG P G N A (o::r)=some l) :
  ∃ e l',l=e::l'∧pY P G N A o=some e∧lG P G N A r=some l':=by
 simp only[lG]at h
 split at h
 ·rename_i e l' he hl
  cases h
  exact⟨e,l',rfl,he,hl⟩
 ·cases h
theorem O7{N:Nat}{A:Array Oper}{ops:List Oper}(h:lG P G N A ops=some []):ops = []:=by
 cases ops with
 | nil=>rfl
 | cons o r=>
  obtain⟨e,l',h1,_⟩:=xB h
  cases h1
theorem JX{N:Nat}{A:Array Oper}:∀ {l es:List eV} {ops:List Oper},lG P G N A ops=some (l++es)→∃ o1 o2,ops=o1++o2∧lG P G N A o1=some l∧lG P G N A o2=some es
 | [],es,ops,h=>⟨[],ops,rfl,rfl,h⟩
 | e::l,es,ops,h=>by
  cases ops with
  | nil=>cases h
  | cons o r=>
   obtain⟨e',l',h1,h2,h3⟩:=xB h
   cases h1
   obtain⟨o1,o2,rfl,h4,h5⟩:=JX h3
   exact⟨o::o1,o2,rfl,by simp only[lG,h2,h4],h5⟩
theorem JY{N:Nat}{A:Array Oper}:∀ {ops:List Oper} {l:List eV},lG P G N A ops=some l→ops.length=l.length∧∀ (i:Nat) (o:Oper) (e:eV),ops[i]? = some o→l[i]? = some e→pY P G N A o=some e:=by
 intro ops
 induction ops with
 | nil=>intro l h;cases h;exact⟨rfl,fun i o e h=>by simp at h⟩
 | cons o r G2=>
  intro l h
  obtain⟨e,l',rfl,h1,h2⟩:=xB h
  obtain⟨q1,q2⟩:=G2 h2
  refine⟨by simp[q1],fun i o' e' ho he=>?_⟩
  cases i with
  | zero=>simp at ho he;subst ho;subst he;exact h1
  | succ i=>exact q2 i o' e' (by simpa using ho) (by simpa using he)
theorem tl{N:Nat}{A:Array Oper}{ops:List Oper}{e:eV}{l:List eV}(h:lG P G N A ops=some (e::l)) :
  ∃ o r,ops=o::r∧pY P G N A o=some e∧lG P G N A r=some l:=by
 cases ops with
 | nil=>cases h
 | cons o r=>
  obtain⟨e',l',h1,h2,h3⟩:=xB h
  cases h1
  exact⟨o,r,rfl,h2,h3⟩
theorem NU{N:Nat}{c:Ctx}{w:World}{s:St}{a:Act}{ro:Option Nat}{n:Nat}{o:Oper}{io:fR}{f:FuncId}{args:List D}{next:Act→World→Prop}{Q:Exit→Act→World→Prop}(hs:iQ G N c w s a)(hc:kg P G o=some io)
  (hd:nR N o.dst=true) (gQ:im s.env.get io=some (f,args)) (ji:nB P f=true) {R:D→U→Prop}
  (gO:∀ vs:List Value,gD c w vs args→Calls P f vs.toArray w fun e w'=>∃ v c' d H',e = .returned v∧R d H'∧eN G c' H' w'∧eu c' w' v d∧Step s.H.length c s.H w c' H' w')
  (k:∀ d H' c' w' a',R d H'→iQ G N c' w' { s with env:=put s.env o.dst d,H:=H' } a'→Step s.H.length c s.H w c' H' w'→next a' w'):o.wpIn (FW ro) n P a w next Q:=by
 obtain⟨vs,gf,gw⟩:=Ei hs.eA hs.env hc gQ ji
 refine⟨fun _ _=>trivial,?_⟩
 rw[Oper.semAt_plain (FW ro) a.eval o (uA hc),gf]
 refine⟨fun h=>by simp[Fence.wide]at h,xn.2 ((gO vs gw).mono ?_)⟩
 rintro e w' ⟨v,c',d,H',rfl,hR,eA,hr,eH⟩
 exact k d H' c' w' _ hR (hs.next eA eH hd hr) eH
theorem N2{s s1:St}{dst:Option Nat}{args:List D}{r:D}{Hn:U}(h:after s dst args r Hn=some s1) :
  (if eT args then jP r&&Hn.all kO else lN r&&Hn.all lT)=true∧s1 = { s with env:=put s.env dst (ix s.H.length r),H:=s.H++Hn }:=by
 unfold after at h
 generalize (if eT args=true then jP r&&Hn.all kO else lN r&&Hn.all lT)=b at h
 cases b
 ·cases h
 ·cases h;exact⟨rfl,rfl⟩
theorem MZ{P:Program}{G:GT}{o:Oper}{io:fR}(hc:kg P G o=some io):EA io=false:=by
 unfold kg at hc
 split at hc
 all_goals try simp only[au,ae,aF]at hc
 all_goals (repeat' first|(obtain⟨_,_,hc⟩:=hc)|split at hc|simp only[ae]at hc)
 all_goals first|rfl|(cases hc;done)|(cases hc;rfl)|(split<;>rfl)
theorem YG{P:Program}{G:GT}{o:Oper}{x:X}(hc:kg P G o=some (.nextM x)):False:=by
 have:=MZ hc
 cases this
theorem YH{P:Program}{G:GT}{o:Oper}{io:fR}(hc:kg P G o=some io){f:e9}{H:U}{n:Nat}{r:D×Dl}(h:jR f H n io=some r):False:=by
 have:=MZ hc
 cases io<;>first|(cases h;done)|(cases this;done)
theorem Y2{fn:ey}(s:St)(ms:List Nat):AL.results fn { s with marks:=ms }=AL.results fn s:=by
 have h1:∀ x,wu { s with marks:=ms } x=wu s x:=fun x=>by cases x<;>rfl
 have h2:∀ l,oV { s with marks:=ms } l=oV s l:=by
  intro l
  induction l with
  | nil=>rfl
  | cons x r ih=>simp only[oV,h1,ih]
 simp only[AL.results,h2]
theorem Qf(hM:P.follows .mixedOrders=true)(hT:ER P G T){j:s5}{R:lD→Prop}(h:Ev T j R):Good P G j R:=by
 induction h with
 | @mono j R R' h hi ih=>
  cases j with
  | ops l s=>exact fun N A ops hc ro n Q c w a gb hs hk=>ih N A ops hc ro n Q c w a gb hs fun o c' w' a' hR=>hk o c' w' a' (hi _ hR)
  | code ir s=>exact fun N code hc ro n Q c w a gb hs hk=>ih N code hc ro n Q c w a gb hs fun o c' w' a' hR=>hk o c' w' a' (hi _ hR)
  | loop n0 live ir s=>exact fun hn N code hc ro n Q c w a gb hs hk=>ih hn N code hc ro n Q c w a gb hs fun o c' w' a' hR=>hk o c' w' a' (hi _ hR)
  | call f args H=>exact fun c w vs h1 h2=>(ih c w vs h1 h2).mono fun _ _ ⟨v,c',d,H',he,hR,r⟩=>⟨v,c',d,H',he,hi _ hR,r⟩
  | trace l s=>
   obtain⟨rs,s',h1,h2⟩:=ih
   exact⟨rs,s',hi _ h1,h2⟩
 | @sort f g fn sz v gen t H R α fc l cf hs hg hl ff h0 sk vV tr nt hc hv k pv=>
  obtain⟨func,code,h1,h2,t1,t2,t3,_⟩:=(hT.fn g fn hg).ex
  exact ZS (hT.sort f sz hs) t3 fc l hl ff h0 sk cf vV tr nt (fun x hx y hy c w vs h1 h2=>(pv x hx y hy c w vs h1 h2).mono fun _ _ ⟨v,c',d,H',he,hR,r⟩=>⟨v,c',d,H',he,by obtain⟨_,e⟩:=hR;cases e;rfl,r⟩) hv k
 | @wB f sz x H R hs k=>exact ZR (hT.sort f sz hs) (f:=f) (g:=0) k
 | @oC f v gen t H R l hs h0 sk hv k=>exact ZU (hT.oC f hs) l h0 sk hv k
 | @nil s R h=>
  intro N A ops hc ro n Q c w a gb hs hk
  rw[O7 hc]
  exact hk _ c w a h rfl (Nat.le_refl _) hs (Step.refl _ _ _ _)
 | @op e r s d δ R hg h t ih=>
  have hle:s.H.length≤(δ.app s.H (Al.last s.H)).length:=EV δ s.H
  intro N A ops hc ro n Q c w a gb hs hk
  obtain⟨o,r',rfl,ho,ja⟩:=tl hc
  obtain⟨s1,s2,s3,s4⟩:=r8 ho
  have hw:=oZ hs.env s4 hg
  simp only[wpListIn,hw,if_true]
  have s1:=JS s1 h
  refine aae hs s1 s3 (jS.last s.H) h fun c' w' a' fm eH=>?_
  rw[← s2]at fm
  exact ih N A r' ja ro n Q c' w' a' gb fm (hk.mono eH hle)
 | @uO e r s d δ R hg h t ih=>
  have hle:s.H.length≤(δ.app s.H (Al.last s.H)).length:=EV δ s.H
  intro N A ops hc ro n Q c w a gb hs hk
  obtain⟨o,r',rfl,ho,ja⟩:=tl hc
  obtain⟨s1,s2,s3,s4⟩:=r8 ho
  have hw:=oZ hs.env s4 hg
  simp only[wpListIn,hw,if_true]
  have s1:=s1.resolve_left fun h2=>YH h2 h
  refine aag hs s1 s3 (jS.last s.H) h fun c' w' a' fm eH=>?_
  rw[← s2]at fm
  exact ih N A r' ja ro n Q c' w' a' gb fm (hk.mono eH hle)
 | @off e r s R hg t ih=>
  intro N A ops hc ro n Q c w a gb hs hk
  obtain⟨o,r',rfl,ho,ja⟩:=tl hc
  obtain⟨s1,s2,s3,s4⟩:=r8 ho
  have hw:=oZ hs.env s4 hg
  simp only[wpListIn,hw,bw,if_false]
  refine⟨fun _ _=>trivial,?_⟩
  have fm:=hs.next hs.eA (Step.refl _ _ _ _) s3 (v:=undef) (d:=.val undef) (.val _)
  rw[← s2]at fm
  rw[← s2]
  exact ih N A r' ja ro n Q c w _ gb (by rw[s2]at fm ⊢;exact fm) hk
 | @jh l s R S hm t ih=>
  have hlen:(jh S s).H.length=s.H.length:=FJ
  intro N A ops hc ro n Q c w a gb hs hk
  obtain⟨c',fm,eH,_⟩:=KA hs S
  refine ih N A ops hc ro n Q c' w a gb fm ?_
  rw[hlen]
  exact hk.mono eH (Nat.le_refl _)
 | @xM code s R S hm t ih=>
  have hlen:(jh S s).H.length=s.H.length:=FJ
  intro N code hc ro n Q c w a gb hs hk
  obtain⟨c',fm,eH,_⟩:=KA hs S
  refine ih N code hc ro n Q c' w a gb fm ?_
  rw[hlen]
  exact hk.mono eH (Nat.le_refl _)
 | @FG l s R live t ih=>
  intro N A ops hc ro n Q c w a gb hs hk
  exact ih N A ops hc ro n Q c w a gb ⟨hs.eA,vj hs.env live,hs.size,hs.marks⟩ hk
 | @CW code s R live t ih=>
  intro N code hc ro n Q c w a gb hs hk
  exact ih N code hc ro n Q c w a gb ⟨hs.eA,vj hs.env live,hs.size,hs.marks⟩ hk
 | @xm e r s f args fn R1 R hg hc hf hp h ha t pv ih=>
  intro N A ops lX ro n Q c w a gb hs hk
  obtain⟨o,r',rfl,ho,ja⟩:=tl lX
  obtain⟨s1,s2,s3,s4⟩:=r8 ho
  have hw:=oZ hs.env s4 hg
  simp only[wpListIn,hw,if_true]
  obtain⟨func,code,h1,h2,t1,t2,t3,_⟩:=(hT.fn f fn hf).ex
  have gG:∀ d Hn,wG R1 d Hn→(if eT args then jP d&&Hn.all kO else lN d&&Hn.all lT)=true∧after s e.dst args d Hn=some { s with env:=put s.env e.dst (ix s.H.length d),H:=s.H++Hn }:=fun d Hn hR=>by
   obtain⟨s',fm⟩:=cK.1 (ha d Hn hR)
   obtain⟨k1,rfl⟩:=N2 fm
   exact⟨k1,fm⟩
  have s1:=xw s1 hc
  refine NU hs s1 s3 hc t3 (R:=fun d H'=>∃ d0 Hn,wG R1 d0 Hn∧d=ix s.H.length d0∧H'=s.H++Hn) (fun vs gw=>(YN hs.eA gw pv fun d Hn hR=>(gG d Hn hR).1).mono ?_) ?_
  ·rintro e w' ⟨v,c',d,Hn,he,hR,k1,k2,k3⟩
   exact⟨v,c',_,_,he,⟨d,Hn,hR,rfl,rfl⟩,k1,k2,k3⟩
  ·rintro d H' c' w' a' ⟨d0,Hn,hR,rfl,rfl⟩ fm eH
   rw[← s2]at fm
   exact ih d0 Hn _ hR (gG d0 Hn hR).2 N A r' ja ro n Q c' w' a' gb fm (hk.mono eH (by simp))
 | @xl e r s f args fn R1 R hg hc hf hp h t pv ih=>
  intro N A ops lX ro n Q c w a gb hs hk
  obtain⟨o,r',rfl,ho,ja⟩:=tl lX
  obtain⟨s1,s2,s3,s4⟩:=r8 ho
  have hw:=oZ hs.env s4 hg
  simp only[wpListIn,hw,if_true]
  obtain⟨func,code,h1,h2,t1,t2,t3,_⟩:=(hT.fn f fn hf).ex
  have s1:=xw s1 hc
  refine NU hs s1 s3 hc t3 (R:=fun d H'=>wG R1 d H'∧s.H.length≤H'.length) (fun vs gw=>(pv c w vs hs.eA gw).mono ?_) ?_
  ·rintro e w' ⟨v,c',d,H',he,hR,hle,k1,k2,k3⟩
   exact⟨v,c',d,H',he,⟨hR,hle⟩,k1,k2,k3⟩
  ·rintro d H' c' w' a' ⟨hR,hle⟩ fm eH
   rw[← s2]at fm
   exact ih d H' hR N A r' ja ro n Q c' w' a' gb fm (hk.mono eH hle)
 | @Cj e r s v args rf env0 Rd Ra Rb R hg hc hv hR hl ha hn hb hm t l4 qn px=>
  intro N A ops lX ro n Q c w a gb hs hk
  obtain⟨o,r',rfl,ho,ja⟩:=tl lX
  obtain⟨s1,s2,s3,s4⟩:=r8 ho
  have hw:=oZ hs.env s4 hg
  simp only[wpListIn,hw,if_true]
  obtain⟨M,ps,ac,bc,pc,Dk,e7,F9,QR⟩:=(hT.round rf Rd hR).ex
  rw[← Dk]at hl l4 e7
  have s1:=s1.resolve_right fun h2=>by
   have:=Fe h2
   unfold yieldOf at hc
   split at hc
   ·rename_i heq;rw[heq]at this;cases this
   ·cases hc
  refine aah hs s1 s3 hc hv pc (by simpa using hl) (fun p hp=>by simpa using ao.1 e7 p hp) (Ra:=outs Ra) (Rb:=outs Rb) ?_ hn ?_ hm ?_
  ·exact fun ro n Q c w a fm hJ=>l4 M ac F9 ro n Q c w a (fun h=>by cases h) fm hJ
  ·intro s1 iS su lx kR ro n Q c w a fm hJ
   have:=qn s1 iS su kR M bc QR ro n Q c w a (fun h=>by simp[lx]at h) fm
   simp only[bV,lx]at this
   exact this hJ
  ·intro q iH c' w' a' sv l3 hle fm eH
   rw[← s2]at fm
   exact px q iH sv l3 N A r' ja ro n Q c' w' a' gb fm (hk.mono eH (by simpa using hle))
 | @next e r s x v m since seen kk es R hg fG hx hv hm nf h0 h1 SH ng=>
  intro N A ops lX ro n Q c w a gb hs hk
  obtain⟨o,r',rfl,ho,ja⟩:=tl lX
  obtain⟨s1,s2,s3,s4⟩:=r8 ho
  have hw:=oZ hs.env s4 hg
  simp only[wpListIn,hw,if_true]
  rw[fG]at s1
  have s1:=s1.resolve_left fun h2=>YG h2
  refine aad hs s1 s3 hx hv hm nf ?_ ?_
  ·intro iq c' w' a' fm eH
   rw[← s2]at fm
   exact SH iq N A r' ja ro n Q c' w' a' gb fm (hk.mono eH (Nat.le_refl _))
  ·intro i k d hi tZ c' w' a' fm eH
   rw[← s2]at fm
   exact ng i k d hi tZ N A r' ja ro n Q c' w' a' gb fm (hk.mono eH (by simp))
 | @skip s R h=>
  intro N code hc ro n Q c w a gb eA hk
  cases hc
  exact wpIn_skip (hk _ c w a h rfl (Nat.le_refl _) eA (Step.refl _ _ _ _))
 | @xA l s R h ih=>
  intro N code hc ro n Q c w a gb eA hk
  cases hc with
  | ops h=>exact wpIn_region_list (ih N _ _ h ro n Q c w a gb eA hk)
 | @seq a b s R1 R h k hs ng oe=>
  intro N code hc ro n Q c w a gb eA hk
  cases hc with
  | seq h1 h2=>
   refine wpIn_seq (ng N _ h1 ro n _ c w a gb eA fun o c' w' a' hR lx hle nb eH=>?_)
   cases o with
   | norm s'=>
    have Dp:s'.fM=s.fM:=lx
    refine oe s' hR N _ h2 ro n Q c' w' a' (fun h=>gb (by rw[← Dp];exact h)) nb ?_
    rw[Dp]
    exact hk.mono eH hle
   | exit id s'=>exact hk _ c' w' a' (hs _ hR rfl) lx hle nb eH
   | ret s'=>exact hk _ c' w' a' (hs _ hR rfl) lx hle nb eH
 | @cond c a b s x R hc h ih=>
  intro N code lX ro n Q c w a gb eA hk
  cases lX with
  | @cond cx ca cb _ _ _ hx h1 h2=>
   have hr:=fY eA.eA eA.env hx
   rw[hc]at hr
   have he:a.eval cx = .bool x:=by
    generalize a.eval cx=u at hr
    cases hr;rfl
   refine wpIn_cond he ?_
   cases x
   ·exact ih N _ h2 ro n Q c w a gb eA hk
   ·exact ih N _ h1 ro n Q c w a gb eA hk
 | @block id live a s R1 R h k ih=>
  have hlen:∀ s':St,s.H.length≤s'.H.length→s.H.length≤(cut s.H.length live s').H.length:=by
   intro s' h1
   unfold cut
   split
   ·exact h1
   ·dsimp only;rw[Ep];simp[gu]
  have Lu:∀ s':St,(cut s.H.length live s').fM=s'.fM:=by
   intro s'
   unfold cut
   split<;>rfl
  intro N code hc ro n Q c w a gb eA hk
  cases hc with
  | block h1=>
   refine wpIn_block (ih N _ h1 ro n _ c w a gb eA fun o c' w' a' hR lx hle nb eH=>?_)
   have lZ:=k o hR
   cases o with
   | norm s'=>
    obtain⟨c2,ka,nI,_⟩:=Fj nb hle live
    exact hk (.norm (cut s.H.length live s')) c2 w' a' lZ ((Lu s').trans lx) (hlen s' hle) ka (eH.trans nI (Nat.le_refl _))
   | exit sK s'=>
    by_cases Gf:sK=id
    ·subst Gf
     obtain⟨c2,ka,nI,_⟩:=Fj nb hle live
     simp only[jU,if_true]at lZ
     have:=hk (.norm (cut s.H.length live s')) c2 w' a' lZ ((Lu s').trans lx) (hlen s' hle) ka (eH.trans nI (Nat.le_refl _))
     simp only[Out.ex,Exit.inBlock,if_true]at this ⊢
     exact this
    ·simp only[jU,if_neg Gf]at lZ
     have:=hk _ c' w' a' lZ lx hle nb eH
     simp only[Out.ex,Exit.inBlock,if_neg Gf]at this ⊢
     exact this
   | ret s'=>exact hk _ c' w' a' lZ lx hle nb eH
 | @zJ s R hR=>
  exact⟨[],s,hR,Nat.le_refl _,rfl,rfl,fun K k0 hK=>⟨[],rfl,rfl,rfl,.nil⟩⟩
 | @zL e r s d δ R1 R hg h t k ih=>
  obtain⟨rs,s',nD,i1,i2,i4,i3⟩:=ih
  refine⟨_,s',k _ _ nD,Nat.le_trans (EV δ s.H) i1,i2,i4,fun K k0 hK=>?_⟩
  obtain⟨items,e1,e2,e3,qV⟩:=i3 K (k0+1) hK
  obtain⟨a1,a2⟩:=EW (N7 h) K (Nat.le_trans i1 hK)
  refine⟨⟨k0,e,s.H.length,⟨eY s.env.get s.H e.op,gP s.H.length δ⟩⟩::items,by simp[e1],by simp[e2],by simp[e3,cr],?_⟩
  have hE:Ef (CC P G) s.env.get (s.H++room (K-s.H.length)) e s.H.length ⟨eY s.env.get s.H e.op,gP s.H.length δ⟩ d δ:=by
   have:=Ef.op (C:=CC P G) (f:=s.env.get) (H:=s.H++room (K-s.H.length)) (e:=e) (n:=s.H.length) hg (by rw[N6];exact h) a2
   rwa [CY]at this
  refine .cons hE ?_
  rw[a1]
  have hp:(put s.env e.dst d).get=jE s.env.get e.dst d:=ze _ _ _
  rw[← hp]
  exact qV
 | @zK e r s R1 R hg t k ih=>
  obtain⟨rs,s',nD,i1,i2,i4,i3⟩:=ih
  refine⟨_,s',k _ _ nD,i1,i2,i4,fun K k0 hK=>?_⟩
  obtain⟨items,e1,e2,e3,qV⟩:=i3 K (k0+1) hK
  refine⟨⟨k0,e,0,⟨[],[]⟩⟩::items,by simp[e1],by simp[e2],by simp[e3,cr],.cons (.off hg) ?_⟩
  have hp:(put s.env e.dst (.val undef)).get=jE s.env.get e.dst (.val undef):=ze _ _ _
  rw[← hp]
  exact qV
 | @zG e r s f args fn d R0 R1 R hg hc hf hp h h0 hr t k pv ih=>
  obtain⟨rs,s',nD,i1,i2,i4,i3⟩:=ih
  refine⟨_,s',k _ _ nD,i1,i2,i4,fun K k0 hK=>?_⟩
  obtain⟨items,e1,e2,e3,qV⟩:=i3 K (k0+1) hK
  refine⟨⟨k0,e,0,⟨eY s.env.get s.H e.op,[]⟩⟩::items,by simp[e1],by simp[e2],by simp[e3,cr],?_⟩
  obtain⟨func,code,h1,h2,t1,t2,t3,_⟩:=(hT.fn f fn hf).ex
  have hE:Ef (CC P G) s.env.get (s.H++room (K-s.H.length)) e 0 ⟨eY s.env.get s.H e.op,[]⟩ d .no:=by
   have e0:args.map (eB (fun _=>none) (s.H++room (K-s.H.length)) 40)=args.map (eB (fun _=>none) s.H 40):=ak fun d _=>(zl 40 d).2
   have:=Ef.call (C:=CC P G) (f:=s.env.get) (H:=s.H++room (K-s.H.length)) (e:=e) (n:=0) hg hc (by rw[e0];exact⟨t3,pv.one h0⟩) hr
   rwa [CY]at this
  refine .cons hE ?_
  have hp:(put s.env e.dst d).get=jE s.env.get e.dst d:=ze _ _ _
  rw[← hp]
  exact qV
 | @zH e r s f qM args fn d ob R0 R1 R hg fG ha hf hp h h0 hr t k pv ih=>
  obtain⟨rs,s',nD,i1,i2,i4,i3⟩:=ih
  have hle:s.H.length≤(s.H ++ [ob]).length:=by simp
  refine⟨_,s',k _ _ nD,Nat.le_trans hle i1,i2,i4,fun K k0 hK=>?_⟩
  obtain⟨items,e1,e2,e3,qV⟩:=i3 K (k0+1) hK
  have GF:Safe s.H (.new ob):=trivial
  obtain⟨a1,a2⟩:=EW (δ:=.new ob) GF K (by have:(s.H ++ [ob]).length≤K:=Nat.le_trans i1 hK;simpa[Dl.app,Al.last]using this)
  refine⟨⟨k0,e,s.H.length,⟨eY s.env.get s.H e.op,[(s.H.length,none)]⟩⟩::items,by simp[e1],by simp[e2],by simp[e3,cr],?_⟩
  obtain⟨func,code,h1,h2,t1,t2,t3,_⟩:=(hT.fn f fn hf).ex
  have hE:Ef (CC P G) s.env.get (s.H++room (K-s.H.length)) e s.H.length ⟨eY s.env.get s.H e.op,[(s.H.length,none)]⟩ (ix s.H.length d) (.new ob):=by
   have e0:args.map (eB (fun _=>none) (s.H++room (K-s.H.length)) 40)=args.map (eB (fun _=>none) s.H 40):=ak fun d _=>(zl 40 d).2
   have:=Ef.callN (C:=CC P G) (f:=s.env.get) (H:=s.H++room (K-s.H.length)) (e:=e) (n:=s.H.length) hg fG ha (by rw[e0];exact⟨t3,pv.one h0⟩) hr a2
   rwa [CY]at this
  refine .cons hE ?_
  have ES:iW s.H.length (.new ob) (s.H++room (K-s.H.length))=(s.H ++ [ob])++room (K-(s.H ++ [ob]).length):=a1
  show Tx (CC P G) (jE s.env.get e.dst (ix s.H.length d)) (iW s.H.length (.new ob) (s.H++room (K-s.H.length))) items _ _
  rw[ES]
  have hp:(put s.env e.dst (ix s.H.length d)).get=jE s.env.get e.dst (ix s.H.length d):=ze _ _ _
  rw[← hp]
  exact qV
 | @zI e r s f qM args fn d v R0 R1 R hg fG ha hf hp hS hv fu ff h h0 hr t k pv ih=>
  obtain⟨rs,s',nD,i1,i2,i4,i3⟩:=ih
  have hle:s.H.length≤(s.H.set v .dead).length:=by simp
  refine⟨_,s',k _ _ nD,Nat.le_trans hle i1,i2,i4,fun K k0 hK=>?_⟩
  obtain⟨items,e1,e2,e3,qV⟩:=i3 K (k0+1) hK
  have gq:v<s.H.length:=by
   unfold rowsOf at fu
   split at fu
   ·rename_i q;exact(af.1 q).1
   ·cases fu
  have GF:Safe s.H (.obj v .dead):=gq
  obtain⟨a1,a2⟩:=EW (δ:=.obj v .dead) GF K (by have:(s.H.set v .dead).length≤K:=Nat.le_trans i1 hK;simpa[Dl.app]using this)
  refine⟨⟨k0,e,0,⟨eY s.env.get s.H e.op,[(v,none)]⟩⟩::items,by simp[e1],by simp[e2],by simp[e3,cr],?_⟩
  obtain⟨func,code,h1,h2,t1,t2,t3,_⟩:=(hT.fn f fn hf).ex
  have hE:Ef (CC P G) s.env.get (s.H++room (K-s.H.length)) e 0 ⟨eY s.env.get s.H e.op,[(v,none)]⟩ d (.obj v .dead):=by
   have e0:args.map (eB (fun _=>none) (s.H++room (K-s.H.length)) 40)=args.map (eB (fun _=>none) s.H 40):=ak fun d _=>(zl 40 d).2
   have e4:args.map (fw (s.H++room (K-s.H.length)) 40)=args.map (fw s.H 40):=ak fun d _=>(zl 40 d).1
   have:=Ef.tg (C:=CC P G) (f:=s.env.get) (H:=s.H++room (K-s.H.length)) (e:=e) (n:=0) (v:=v) hg fG ha (by rw[e4];exact hS) (by rw[e4];exact hv) (by rw[HQ];exact fu) (by rw[e0];exact⟨t3,pv.one h0⟩) (by rw[e0];exact ff) hr
   rwa [CY]at this
  refine .cons hE ?_
  have ES:iW 0 (.obj v .dead) (s.H++room (K-s.H.length))=(s.H.set v .dead)++room (K-(s.H.set v .dead).length):=a1
  show Tx (CC P G) (jE s.env.get e.dst d) (iW 0 (.obj v .dead) (s.H++room (K-s.H.length))) items _ _
  rw[ES]
  have hp:(put s.env e.dst d).get=jE s.env.get e.dst d:=ze _ _ _
  rw[← hp]
  exact qV
 | @draw gJ l s R1 R t hp ih=>
  obtain⟨rs,s',nD,i1,i2,i4,i3⟩:=ih
  obtain⟨hp,QA⟩:=hp rs s' nD
  intro N code hc ro n Q c w a gb eA hk
  cases hc with
  | @draw _ _ id A ord qW he ho nc=>
   obtain⟨items,e1,e2,e3,tI⟩:=i3 s'.H.length 0 (Nat.le_refl _)
   have hlen:items.length=l.length:=by rw[← e1];simp
   have ff:∀ (ops:List Oper) (l:List eV),lG P G N A ops=some l→ops.length=l.length∧∀ (i:Nat) (o:Oper) (e:eV),ops[i]? = some o→l[i]? = some e→pY P G N A o=some e:=by
    intro ops
    induction ops with
    | nil=>intro l h;cases h;exact⟨rfl,fun i o e h=>by simp at h⟩
    | cons o r G2=>
     intro l h
     obtain⟨e,l',rfl,h1,h2⟩:=xB h
     obtain⟨q1,q2⟩:=G2 l' h2
     refine⟨by simp[q1],fun i o' e' ho he=>?_⟩
     cases i with
     | zero=>simp at ho he;subst ho;subst he;exact h1
     | succ i=>exact q2 i o' e' (by simpa using ho) (by simpa using he)
   obtain⟨q1,q2⟩:=ff _ _ qW
   have hA:A.size=l.length:=by rw[← q1];simp
   have gH:∀ (i:Nat) (it:jT),items[i]? = some it→it.k=i∧l[i]? = some it.e∧rs[i]? = some it.rc:=by
    intro i it hi
    have e7:=(af.1 hi).1
    refine⟨?_,by rw[← e1];simp[hi],by rw[← e2];simp[hi]⟩
    have:(items.map (·.k))[i]? = some it.k:=by simp[hi]
    rw[e3,List.getElem?_range' (by omega)]at this
    simpa using this.symm
   refine wpIn_region_any hM ?_
   have oP:eN G c s.H { w with drawn:=w.drawn+1 }:=eA.eA.lV (ia.drew w)
   have yu:Step s.H.length c s.H w c s.H { w with drawn:=w.drawn+1 }:=wD _ (ia.drew w)
   have GJ:SX G N c { w with drawn:=w.drawn+1 } s.env.get (s.H++room (s'.H.length-s.H.length)) s.marks a:=
    ⟨Nn oP _,iP.carry (fun _ _ h=>h.mr eA.eA.toHeapOK yu) eA.env,eA.size,eA.marks⟩
   refine Jo (C:=CC P G) (fun g args d Hn h=>h) he ho A.size items _ c _ _ _ a (by omega) ?_ GJ tI ?_ ?_ fun c' w' a' fm eH=>?_
   ·refine⟨by simp,fun j hj=>?_,?_,fun it gX=>?_,fun i hi hl=>?_⟩
    ·refine⟨fun _=>⟨items[j]'(by omega),bz _,(gH j _ (List.getElem?_eq_getElem _)).1⟩,fun _=>by simp[hj]⟩
    ·rw[bj]
     intro i j hi hj mG
     rw[(gH i _ (List.getElem?_eq_getElem hi)).1,(gH j _ (List.getElem?_eq_getElem hj)).1]
     exact mG
    ·obtain⟨i,hi⟩:=aD.1 gX
     have e7:=(af.1 hi).1
     rw[(gH i it hi).1];omega
    ·simp[hi]at hl
   ·intro it gX
    obtain⟨i,hi⟩:=aD.1 gX
    have e7:=(af.1 hi).1
    obtain⟨k1,k2,k3⟩:=gH i it hi
    refine⟨A[i]'(by omega),by rw[k1];simp,q2 i _ _ (by simp) k2⟩
   ·intro p pf q hq yk
    obtain⟨i,hi⟩:=aD.1 pf
    obtain⟨j,hj⟩:=aD.1 hq
    obtain⟨p1,p2,p3⟩:=gH i p hi
    obtain⟨HG,HH,q3⟩:=gH j q hj
    rw[p1,HG]at yk ⊢
    have e7:=(af.1 hj).1
    have:=ao.1 (ao.1 nc j (bG.2 (by omega))) i (bG.2 yk)
    simp only[p2,HH,bW,ah,cE]at this
    rcases this with h|⟨h1,h2⟩
    ·exact .inl h
    ·refine .inr ⟨h1,?_⟩
     rcases h2 with h2|h2
     ·have:=ao.1 hp (i,j) h2
      simp only[p3,q3]at this
      exact this
     ·obtain⟨_,_,_,_,E1⟩:=tI.each p pf
      obtain⟨_,_,_,_,E2⟩:=tI.each q hq
      exact NJ E1 E2 h2
   ·simp only[Nat.sub_self,room,List.replicate_zero,av]at fm eH
    refine hk _ c' w' a' QA i4 i1 ⟨fm.eA,fm.env,fm.size,by show kf c' s'.marks _;rw[i2];exact fm.marks⟩ ?_
    have h1:=yu.trans (No (c:=c) (w:={ w with drawn:=w.drawn+1 }) (H:=s.H) (s'.H.length-s.H.length) s.H.length) (Nat.le_refl _)
    exact h1.trans eH (by simp)
 | @jG gJ l es s R1 R t hp k ih rl=>
  obtain⟨rs,s',nD,i1,i2,i4,i3⟩:=ih
  have hp:=hp rs s' nD
  have rl:=rl rs s' nD
  intro N code hc ro n Q c w a gb eA hk
  cases hc with
  | @jG _ _ _ id A ord qW he ho nc sB=>
   obtain⟨items,e1,e2,e3,tI⟩:=i3 s'.H.length 0 (Nat.le_refl _)
   have hlen:items.length=l.length:=by rw[← e1];simp
   obtain⟨o1,o2,FU,c1,c2⟩:=JX qW
   obtain⟨q1,q2⟩:=JY c1
   obtain⟨q3,_⟩:=JY c2
   have hA:A.size=l.length+es.length:=by rw[← cu,FU,az,q1,q3]
   have Qu:∀ i,i<l.length→A[i]? = o1[i]? := fun i hi=>by
    rw[← bq,FU,ag (by omega)]
   have Qv:∀ i,A[l.length+i]? = o2[i]? := fun i=>by
    rw[← bq,FU,aj (by omega)]
    congr 1;omega
   have gH:∀ (i:Nat) (it:jT),items[i]? = some it→it.k=i∧l[i]? = some it.e∧rs[i]? = some it.rc∧i<l.length:=by
    intro i it hi
    have e7:=(af.1 hi).1
    refine⟨?_,by rw[← e1];simp[hi],by rw[← e2];simp[hi],by omega⟩
    have:(items.map (·.k))[i]? = some it.k:=by simp[hi]
    rw[e3,List.getElem?_range' (by omega)]at this
    simpa using this.symm
   refine wpIn_region_any hM ?_
   have oP:eN G c s.H { w with drawn:=w.drawn+1 }:=eA.eA.lV (ia.drew w)
   have yu:Step s.H.length c s.H w c s.H { w with drawn:=w.drawn+1 }:=wD _ (ia.drew w)
   have GJ:SX G N c { w with drawn:=w.drawn+1 } s.env.get (s.H++room (s'.H.length-s.H.length)) s.marks a:=
    ⟨Nn oP _,iP.carry (fun _ _ h=>h.mr eA.eA.toHeapOK yu) eA.env,eA.size,eA.marks⟩
   have Df:∀ q∈(es.zipIdx l.length).map (fun p=>(⟨p.2,p.1,0,⟨[],[]⟩⟩:jT)),l.length≤q.k∧q.k<l.length+es.length:=fun q hq=>by
    obtain⟨p,pf,rfl⟩:=aw.1 hq
    obtain⟨x,y⟩:=p
    have:=List.mem_zipIdx pf
    exact⟨this.1,by show y<_;omega⟩
   have vJ:((es.zipIdx l.length).map (fun p=>(⟨p.2,p.1,0,⟨[],[]⟩⟩:jT))).length=es.length:=by simp
   rw[show A.size=items.length+((es.zipIdx l.length).map (fun p=>(⟨p.2,p.1,0,⟨[],[]⟩⟩:jT))).length by rw[vJ];omega]
   refine Jp (C:=CC P G) (fun g args d Hn h=>h) he ho (lasts:=(es.zipIdx l.length).map fun p=>⟨p.2,p.1,0,⟨[],[]⟩⟩) (ops:=o2) (fun q hq k hk=>sB q.k (Df q hq).1 (by simp;exact(Df q hq).2) k hk) ?_ items.length items _ c _ _ _ a rfl ?_ GJ tI ?_ ?_ fun c' w' a' fm eH=>?_
   ·refine bI fun i=>?_
    simp only[cD,ar,List.getElem?_zipIdx]
    cases h:es[i]? with
    | none=>
     have:es.length≤i:=by simpa using h
     simp[aK (l:=o2) (i:=i) (by omega)]
    | some e=>
     have:=(af.1 h).1
     simp[Qv,List.getElem?_eq_getElem (l:=o2) (i:=i) (by omega)]
   ·refine⟨by simp;omega,fun j hj=>?_,?_,fun it gX=>?_,fun i hi hl=>?_⟩
    ·refine⟨fun _=>?_,fun _=>by rw[vJ];simp[show j<items.length+es.length by omega]⟩
     by_cases lY:j<l.length
     ·exact⟨items[j]'(by omega),aS _ (bz _),(gH j _ (List.getElem?_eq_getElem _)).1⟩
     ·refine⟨⟨j,es[j-l.length]'(by omega),0,⟨[],[]⟩⟩,br _ (aw.2 ⟨(es[j-l.length]'(by omega),j),?_,rfl⟩),rfl⟩
      rw[List.mem_zipIdx_iff_le_and_getElem?_sub]
      exact⟨by omega,by simp⟩
    ·refine bF.2 ⟨?_,?_,fun p pf q hq=>?_⟩
     ·rw[bj]
      intro i j hi hj mG
      rw[(gH i _ (List.getElem?_eq_getElem hi)).1,(gH j _ (List.getElem?_eq_getElem hj)).1]
      exact mG
     ·rw[bj]
      intro i j hi hj mG
      simp
      omega
     ·obtain⟨i,hi⟩:=aD.1 pf
      have h1:=gH i p hi
      have h2:=Df q hq
      omega
    ·rcases List.mem_append.1 gX with gX|gX
     ·obtain⟨i,hi⟩:=aD.1 gX
      have:=gH i it hi
      omega
     ·have:=Df it gX;omega
    ·rw[vJ]at hl
     have:i<items.length+es.length:=by omega
     simp[this]at hl
   ·intro it gX
    obtain⟨i,hi⟩:=aD.1 gX
    obtain⟨k1,k2,k3,k4⟩:=gH i it hi
    have h1:o1[i]? = some (o1[i]'(by omega)):=List.getElem?_eq_getElem _
    exact⟨o1[i]'(by omega),by rw[k1,Qu i k4,h1],q2 i _ _ h1 k2⟩
   ·intro p pf q hq yk
    obtain⟨i,hi⟩:=aD.1 pf
    obtain⟨j,hj⟩:=aD.1 hq
    obtain⟨p1,p2,p3,p4⟩:=gH i p hi
    obtain⟨HG,HH,q3,q4⟩:=gH j q hj
    rw[p1,HG]at yk ⊢
    have:=ao.1 (ao.1 nc j (bG.2 (by simp;omega))) i (bG.2 yk)
    simp only[ag p4,ag q4,p2,HH,bW,ah,cE]at this
    rcases this with h|⟨h1,h2⟩
    ·exact .inl h
    ·refine .inr ⟨h1,?_⟩
     rcases h2 with h2|h2
     ·have:=ao.1 hp (i,j) h2
      simp only[p3,q3]at this
      exact this
     ·obtain⟨_,_,_,_,E1⟩:=tI.each p pf
      obtain⟨_,_,_,_,E2⟩:=tI.each q hq
      exact NJ E1 E2 h2
   ·simp only[Nat.sub_self,room,List.replicate_zero,av]at fm eH
    have h1:=yu.trans (No (c:=c) (w:={ w with drawn:=w.drawn+1 }) (H:=s.H) (s'.H.length-s.H.length) s.H.length) (Nat.le_refl _)
    have h2:=h1.trans eH (by simp)
    exact rl N A o2 c2 ro n Q c' w' a' (by rw[i4];exact gb) ⟨fm.eA,fm.env,fm.size,by show kf c' s'.marks _;rw[i2];exact fm.marks⟩ (by rw[i4];exact hk.mono h2 i1)
 | @loop live a s R h ih=>
  intro N code hc ro n Q c w a gb eA hk
  cases hc with
  | loop h1=>exact aac (ih (Nat.le_refl _) N _ h1 ro n Q c w a gb ⟨eA.eA,vj eA.env live,eA.size,eA.marks⟩ hk)
 | @sL n0 live a s R1 R h k hs ng oe=>
  intro hn N code hc ro n Q c w a gb eA hk
  refine TD (ng N _ hc ro n _ c w a gb eA fun o c' w' a' hR lx hle nb eH=>?_)
  cases o with
  | norm s'=>
   have K8:n0≤s'.H.length:=Nat.le_trans hn hle
   have QV:n0≤(cut n0 live s').H.length:=by
    unfold cut
    split
    ·exact K8
    ·dsimp only;rw[Ep];simp[gu]
   have ym:(cut n0 live s').fM=s.fM:=by
    have Dp:s'.fM=s.fM:=lx
    unfold cut
    split<;>exact Dp
   obtain⟨c2,ka,nI,_⟩:=Fj nb K8 live
   refine oe s' hR QV N _ hc ro n Q c2 w' a' (fun h=>gb (by rw[← ym];exact h)) ka ?_
   rw[ym]
   exact hk.mono ((eH.weaken hn).trans nI (Nat.le_refl _)) (Nat.le_refl _)
  | exit id s'=>exact hk _ c' w' a' (hs _ hR rfl) lx (Nat.le_trans hn hle) nb (eH.weaken hn)
  | ret s'=>exact hk _ c' w' a' (hs _ hR rfl) lx (Nat.le_trans hn hle) nb (eH.weaken hn)
 | @jQ rf live x s f first cap fn R1 R lx hx hf hp h k ih=>
  intro N code hc ro n Q c w a gb eA hk
  have RU:=gb lx
  subst RU
  cases hc with
  | jQ Sh pc=>
   obtain⟨func,code,h1,h2,t1,t2,t3,_⟩:=(hT.fn f fn hf).ex
   exact aaf eA Sh hx t3 pc (live:=live) (R1:=wG R1) (R:=outs R) ih k hk
 | @exit id s R h=>
  intro N code hc ro n Q c w a gb eA hk
  cases hc
  exact wpIn_exit (hk _ c w a h rfl (Nat.le_refl _) eA (Step.refl _ _ _ _))
 | @ret s R h=>
  intro N code hc ro n Q c w a gb eA hk
  cases hc
  exact wpIn_ret (hk _ c w a h rfl (Nat.le_refl _) eA (Step.refl _ _ _ _))
 | @call f args H fn R1 R own hf hl h k ih=>
  intro c w vs eA gw
  obtain⟨func,code,hs,fm,t1,t2,t3,t7,t4,t5,t6⟩:=(hT.fn f fn hf).ex
  have ym:=YS hT.rt t1 t2 t7
  rw[t5]at ym
  refine callsIn_wide (n:=0) |>.1 (callsIn_of_wp_marks (F:=FW none) t1 t2 trivial (ih fn.ntmps code (E3 ym t4) none 0 _ c w _ (fun _=>rfl) ⟨eA,Pp gw _,?_,.nil⟩ ?_))
  ·simp;omega
  ·intro o c' w' a' hR lx hle kD eH
   obtain⟨d,H',jK,QB⟩:=k o hR
   have main:∀ s:St,o.st=s→∀ H1,kill s.marks s.H=some H1→∀ d0,AL.results fn { s with H:=H1 }=some d0→leave own H.length H1 d0=(d,H') →
     LeavesInM (FW none) 0 P func a'.tmps (fun e w'=>∃ v c' d H',e = .returned v∧wG R d H'∧H.length≤H'.length∧eN G c' H' w'∧eu c' w' v d∧Step H.length c H w c' H' w') a'.defers .returning w':=by
    rintro s rfl H1 Rl d0 vP Rp
    refine Tq kD.marks kD.eA Rl fun w1 q1 q2 q3=>?_
    have Dq:iQ G fn.ntmps c' w1 { o.st with H:=H1,marks:=[] } { a' with defers:=[] }:=⟨q1,fun j=>(kD.env j).mr kD.eA.toHeapOK q2,kD.size,.nil⟩
    obtain⟨v,hv,GU⟩:=Y3 Dq t6 (d:=d0) (by rw[← vP];exact Y2 { o.st with H:=H1 } [])
    have Ro:H.length≤H1.length:=by rw[q3];exact hle
    obtain⟨c2,k1,k2,k3,k4⟩:=Tp q1 Ro own GU
    rw[Rp]at k1 k2 k3 k4
    exact⟨v,hv,v,c2,d,H',rfl,QB,k4,k1,k2,(eH.trans q2 hle).trans k3 (Nat.le_refl _)⟩
   have KY:∀ s:St,finish fn own H.length (.norm s)=some (d,H')→∃ H1,kill s.marks s.H=some H1∧∃ d0,AL.results fn { s with H:=H1 }=some d0∧leave own H.length H1 d0=(d,H'):=by
    intro s hf
    simp only[finish]at hf
    split at hf
    ·rename_i H1 lZ
     split at hf
     ·rename_i d0 iI
      exact⟨H1,lZ,d0,iI,cJ hf⟩
     ·cases hf
    ·cases hf
   cases o with
   | norm s=>
    obtain⟨H1,q1,d0,q2,q3⟩:=KY s jK
    exact main s rfl H1 q1 d0 q2 q3
   | ret s=>
    obtain⟨H1,q1,d0,q2,q3⟩:=KY s jK
    exact main s rfl H1 q1 d0 q2 q3
   | exit id s=>cases jK
end
end Go.AL
namespace Go.AL
open Go
def CN:Value→Value→Bool
 | .int k a,.int k' b=>decide (k=k')&&decide (a=b)
 | .bool a,.bool b=>a == b
 | .string a,.string b=>decide (a.data.toList=b.data.toList)
 | .nilFunc,.nilFunc=>true
 | .tuple a,.tuple b=>a.toList.isEmpty&&b.toList.isEmpty
 | _,_=>false
mutual
def lI:D→D→Bool
 | .any,.any=>true
 | .val a,.val b=>CN a b
 | .agg a,.agg b=>nS a b
 | .tup a,.tup b=>nS a b
 | .sl n a,.sl m b=>decide (n=m)&&vm a b
 | .emp,.emp=>true
 | .et a b c d e,.et a' b' c' d' e'=>decide (a=a')&&decide (b=b')&&decide (c=c')&&decide (d=d')&&decide (e=e')
 | .ptr a b c,.ptr a' b' c'=>decide (a=a')&&decide (b=b')&&decide (c=c')
 | .eF a,.eF b=>nS a b
 | .omap a,.omap b=>decide (a=b)
 | .gv a,.gv b=>decide (a=b)
 | .fn (.func f) a b,.fn (.func f') a' b'=>decide (f=f')&&nS a a'&&nS b b'
 | _,_=>false
def nS:List D→List D→Bool
 | [],[]=>true
 | a::l,b::m=>lI a b&&nS l m
 | _,_=>false
def vm:List (List D)→List (List D)→Bool
 | [],[]=>true
 | a::l,b::m=>nS a b&&vm l m
 | _,_=>false
end
def tt:Env→Env→Bool
 | [],[]=>true
 | (i,a)::l,(j,b)::m=>decide (i=j)&&lI a b&&tt l m
 | _,_=>false
def vo:List (Value×D)→List (Value×D)→Bool
 | [],[]=>true
 | (i,a)::l,(j,b)::m=>CN i j&&lI a b&&vo l m
 | _,_=>false
def Fv:Ob→Ob→Bool
 | .row t g a,.row t' g' b=>decide (t=t')&&decide (g=g')&&nS a b
 | .map k a,.map k' b=>decide (k=k')&&vo a b
 | .fy r e s,.fy r' e' s'=>decide (r=r')&&tt e e'&&decide (s=s')
 | .nM a p,.nM b q=>decide (a.data.toList=b.data.toList)&&decide (p=q)
 | .jD m s l,.jD m' s' l'=>lI m m'&&decide (s=s')&&decide (l=l')
 | .jv,.jv=>true
 | .dead,.dead=>true
 | .hole,.hole=>true
 | _,_=>false
def tu:U→U→Bool
 | [],[]=>true
 | a::l,b::m=>Fv a b&&tu l m
 | _,_=>false
def xH(s t:St):Bool:=tt s.env t.env&&tu s.H t.H&&decide (s.marks=t.marks)&&(s.fM == t.fM)
def Fw:Out→Out→Bool
 | .norm s,.norm t=>xH s t
 | .exit i s,.exit j t=>decide (i=j)&&xH s t
 | .ret s,.ret t=>xH s t
 | _,_=>false
def Fx(a b:D×U):Bool:=lI a.1 b.1&&tu a.2 b.2
def once{α:Type}(eq:α→α→Bool):List α→List α
 | []=>[]
 | [a]=>[a]
 | a::l=>let m:=once eq l;if m.any (eq a)then m else a::m
def nv{α β:Type}:List α→(α→Option (List β))→Option (List β)
 | [],_=>some []
 | [a],f=>f a
 | a::l,f=>match f a,nv l f with
  | some x,some y=>some (x++y)
  | _,_=>none
abbrev rE:=FuncId→List D→U→Option (List (D×U))
abbrev uU:=IR→St→Option (List Out)
def M9(s:St)(args:List D):List Nat:=dedup (args.map (fw s.H 40)).flatten
def Eg(cl:rE)(e:eV)(f:FuncId)(s:St):Option (List St):=
 match im s.env.get e.op with
 | none=>none
 | some (f',args)=>if f'=f then(match cl f (args.map (eB (fun _=>none) s.H 40)) []with
  | some l=>nv l fun p=>match after s e.dst args p.1 p.2 with
   | some s'=>some [s']
   | none=>none
  | none=>none)else none
def HS(T:fE)(cl:rE)(e:eV)(s:St):Option (List St):=
 match im s.env.get e.op with
 | none=>none
 | some (f,args)=>match T.fn f with
  | none=>none
  | some fn=>
   match fn.full with
   | true=>match cl f args s.H with
    | some l=>some (l.map fun p=>{ s with env:=put s.env e.dst p.1,H:=p.2 })
    | none=>none
   | false=>if fn.fz&&s.marks.isEmpty && !eT args then Eg cl e f (jh (M9 s args) s)else Eg cl e f s
def HV(T:fE)(rd:uU)(e:eV)(s:St)(v:Nat)(args:List D):Option (List St):=
 match s.H[v]? with
 | some (.fy rf env0 .ready)=>match T.round rf with
  | some Rd=>if args.length=Rd.params.length then
    match rd Rd.a { env:=oz Rd.params args env0,H:=s.H,fM:=true }with
    | some la=>match nv la fun o=>match o with
      | .norm s1=>match s1.H[v]? with
       | some (.fy Nd iS .ready)=>if Nd=rf then rd Rd.b { s1 with H:=s1.H.set v (.fy rf iS .busy) }else none
       | _=>none
      | _=>none with
     | some lb=>nv lb fun o=>match o.st.H[v]? with
      | some (.fy Nf iH .busy)=>if Nf=rf then some [{ s with env:=put s.env e.dst (.b !o.stop),H:=o.st.H.set v (.fy rf iH o.sS) }]else none
      | _=>none
     | none=>none
    | none=>none
   else none
  | none=>none
 | _=>none
def HU(e:eV)(s:St)(x:X):Option (List St):=
 match ev s.env.get x with
 | .ptr v 0 0=>match s.H[v]? with
  | some (.jD (.omap m) since seen)=>match s.H[m]? with
   | some (.map _ es)=>if es.length=since then
     let left:=(List.range es.length).filter fun i => !seen.contains i
     if left.isEmpty then some [{ s with env:=put s.env e.dst (.tup [.b false]) }]else
      some (left.filterMap fun i=>match es[i]? with
       | some (k,d)=>some { s with env:=put s.env e.dst (.tup [.b true,.val k,d]),H:=s.H.set v (.jD (.omap m) since (seen ++ [i])) }
       | none=>none)
    else none
   | _=>none
  | _=>none
 | _=>none
def qx(T:fE)(cl:rE)(rd:uU):List eV→St→Option (List St)
 | [],s=>some [s]
 | e::r,s=>match guardOf s.env.get e.guard with
  | none=>none
  | some false=>qx T cl rd r { s with env:=put s.env e.dst (.val undef) }
  | some true=>match eX s.env.get s.H s.H.length e.op with
   | some (d,δ)=>qx T cl rd r { s with env:=put s.env e.dst d,H:=δ.app s.H (Al.last s.H) }
   | none=>match jR s.env.get s.H s.H.length e.op with
    | some (d,δ)=>qx T cl rd r { s with env:=put s.env e.dst d,H:=δ.app s.H (Al.last s.H) }
    | none=>match e.op with
     | .nextM x=>match HU e s x with
      | some l=>nv l fun s'=>qx T cl rd r s'
      | none=>none
     | _=>match yieldOf s.env.get e.op with
      | some (v,args)=>match HV T rd e s v args with
       | some l=>nv l fun s'=>qx T cl rd r s'
       | none=>none
      | none=>match im s.env.get e.op with
       | none=>none
       | some _=>match HS T cl e s with
        | some l=>nv l fun s'=>qx T cl rd r s'
        | none=>none
def SL:fR→Bool
 | .callN _ _=>true
 | _=>false
def rA(T:fE)(cl:rE)(st:Bool):List eV→St→Option (List Rc×St)
 | [],s=>some ([],s)
 | e::r,s=>match guardOf s.env.get e.guard with
  | none=>none
  | some false=>match rA T cl st r { s with env:=put s.env e.dst (.val undef) }with
   | some (rs,s')=>some (⟨[],[]⟩::rs,s')
   | none=>none
  | some true=>match eX s.env.get s.H s.H.length e.op with
   | some (d,δ)=>match rA T cl st r { s with env:=put s.env e.dst d,H:=δ.app s.H (Al.last s.H) }with
    | some (rs,s')=>some (⟨eY s.env.get s.H e.op,gP s.H.length δ⟩::rs,s')
    | none=>none
   | none=>match im s.env.get e.op with
    | none=>none
    | some (f,args)=>match T.fn f with
     | none=>none
     | some fn=>if fn.full||(st&&fn.fz && !eT args && !SL e.op)then none else match cl f (args.map (eB (fun _=>none) s.H 40)) []with
      | some [(d,[])]=>if (if eT args then closed d else flat d)then(match rA T cl st r { s with env:=put s.env e.dst d }with
       | some (rs,s')=>some (⟨eY s.env.get s.H e.op,[]⟩::rs,s')
       | none=>none)else(match e.op with
       | .callN _ _=>match (args.map (fw s.H 40)).flatten with
        | v::l=>if (l.all fun u=>decide (u=v))&&(rowsOf s.H v).isSome&&eT (args.map (eB (fun _=>none) s.H 40))&&closed d then(match rA T cl st r { s with env:=put s.env e.dst d,H:=s.H.set v .dead }with
         | some (rs,s')=>some (⟨eY s.env.get s.H e.op,[(v,none)]⟩::rs,s')
         | none=>none)else none
        | []=>none
       | _=>none)
      | some [(d,[ob])]=>match e.op with
       | .callN _ _=>if (if eT args then jP d&&kO ob else lN d&&lT ob)then(match rA T cl st r { s with env:=put s.env e.dst (ix s.H.length d),H:=s.H ++ [ob] }with
        | some (rs,s')=>some (⟨eY s.env.get s.H e.op,[(s.H.length,none)]⟩::rs,s')
        | none=>none)else none
       | _=>none
      | _=>none
def mN(T:fE)(cl:rE)(lp:Nat→List Nat→IR→St→Option (List Out))(rd:uU):IR→St→Option (List Out)
 | .skip,s=>some [.norm s]
 | .ops l,s=>match qx T cl rd l s with
  | some l=>some (l.map .norm)
  | none=>none
 | .draw gJ l,s=>match rA T cl true l s with
  | some (rs,s')=>if pD gJ rs then some [.norm s']else none
  | none=>if s.marks.isEmpty then(match rA T cl false l (jh (List.range s.H.length) s)with
   | some (rs,s')=>if pD gJ rs then some [.norm s']else none
   | none=>none)else none
 | .jG ..,_=>none
 | .seq a b,s=>match mN T cl lp rd a s with
  | some l=>nv l fun o=>match o with
   | .norm s'=>mN T cl lp rd b s'
   | o=>some [o]
  | none=>none
 | .cond c a b,s=>match ev s.env.get c with
  | .val (.bool true)=>mN T cl lp rd a s
  | .val (.bool false)=>mN T cl lp rd b s
  | _=>none
 | .block id live a,s=>match mN T cl lp rd a s with
  | some l=>some (once Fw (l.map (jU id s.H.length live)))
  | none=>none
 | .loop live a,s=>lp s.H.length live a { s with env:=forget live s.env }
 | .jQ rf live x,s=>if s.fM then none else match ev s.env.get x with
  | .fn (.func f) first cap=>match T.fn f with
   | some fn=>if fn.full then
     match cl f (first ++ [.gv (s.H.length+1)]++cap) (s.H ++ [.jv,.fy rf (forget live s.env) .ready])with
     | some l=>nv l fun p=>match p.2[s.H.length+1]? with
      | some (.fy Nc _ st)=>if Nc=rf then(match uF { s with H:=p.2.set (s.H.length+1) .dead,marks:=s.H.length::s.marks } st with
       | some o=>some [o]
       | none=>none)else none
      | _=>none
     | none=>none
    else none
   | none=>none
  | _=>none
 | .exit id,s=>some [.exit id s]
 | .ret,s=>some [.ret s]
 | .bad,_=>none
 | .fz _ _,_=>none
 | .pa _ _ _,_=>none
abbrev pP:=List (FuncId×List D×List (D×U))
def zh:pP→FuncId→List D→Option (List (D×U))
 | [],_,_=>none
 | (g,qM,l)::M,f,args=>match Nat.beq g f with
  | true=>match nS qM args with
   | true=>some l
   | false=>zh M f args
  | false=>zh M f args
def known(M:pP)(f:FuncId)(args:List D):U→Option (List (D×U))
 | []=>zh M f args
 | _=>none
mutual
def uK(T:fE)(M:pP):Nat→Nat→List Nat→IR→St→Option (List Out)
 | 0,_,_,_,_=>none
 | k+1,n,live,a,s=>match mN T (run T M k) (uK T M k) (wv T M k) a s with
  | some l=>nv l fun o=>match o with
   | .norm s'=>uK T M k n live a (cut n live s')
   | o=>some [o]
  | none=>none
def wv(T:fE)(M:pP):Nat→uU
 | 0,_,_=>none
 | k+1,c,s=>mN T (run T M k) (uK T M k) (wv T M k) c s
def run(T:fE)(M:pP):Nat→rE
 | 0,_,_,_=>none
 | k+1,f,args,H=>match known M f args H with
  | some l=>some l
  | none=>match T.fn f with
  | none=>none
  | some fn=>if args.length≤fn.ntmps then(match mN T (run T M k) (uK T M k) (wv T M k) fn.body { env:=om args,H:=H }with
   | some l=>match nv l fun o=>match finish fn fn.own H.length o with
     | some p=>some [p]
     | none=>none with
    | some ps=>some (once Fx ps)
    | none=>none
   | none=>none)else none
end
end Go.AL
namespace Go.AL
open Go
theorem Ke{a b:Value}(h:CN a b=true):a=b:=by
 unfold CN at h
 split at h
 ·simp only[ah,decide_eq_true_eq]at h;rw[h.1,h.2]
 ·simp only[beq_iff_eq]at h;rw[h]
 ·rename_i a b
  simp only[decide_eq_true_eq]at h
  have:a=b:=by
   cases a;cases b
   congr 1
   exact dC h
  rw[this]
 ·rfl
 ·simp only[ah,cp]at h
  rw[show _ = #[]from dC h.1,show _ = #[]from dC h.2]
 ·cases h
mutual
theorem xG:∀ {a b:D},lI a b=true→a=b
 | .any,b,h=>by cases b<;>simp[lI]at h ⊢
 | .val a,b,h=>by
  cases b<;>simp[lI]at h ⊢
  exact Ke h
 | .agg a,b,h=>by
  cases b<;>simp[lI]at h ⊢
  exact qS h
 | .tup a,b,h=>by
  cases b<;>simp[lI]at h ⊢
  exact qS h
 | .sl n a,b,h=>by
  cases b<;>simp[lI]at h ⊢
  exact⟨h.1,Kb h.2⟩
 | .emp,b,h=>by cases b<;>simp[lI]at h ⊢
 | .et a1 a2 a3 a4 a5,b,h=>by
  cases b<;>simp[lI]at h ⊢
  simp[h]
 | .ptr a1 a2 a3,b,h=>by
  cases b<;>simp[lI]at h ⊢
  simp[h]
 | .eF a,b,h=>by
  cases b<;>simp[lI]at h ⊢
  exact qS h
 | .omap a,b,h=>by cases b<;>simp[lI]at h ⊢;exact h
 | .gv a,b,h=>by cases b<;>simp[lI]at h ⊢;exact h
 | .fn f a a',b,h=>by
  cases f<;>cases b<;>first|(simp[lI]at h;done)|skip
  rename_i f g b b'
  cases g<;>simp[lI]at h ⊢
  exact⟨h.1.1,qS h.1.2,qS h.2⟩
theorem qS:∀ {a b:List D},nS a b=true→a=b
 | [],[],_=>rfl
 | a::l,b::m,h=>by
  simp only[nS,ah]at h
  rw[xG h.1,qS h.2]
 | [],_::_,h=>by simp[nS]at h
 | _::_,[],h=>by simp[nS]at h
theorem Kb:∀ {a b:List (List D)},vm a b=true→a=b
 | [],[],_=>rfl
 | a::l,b::m,h=>by
  simp only[vm,ah]at h
  rw[qS h.1,Kb h.2]
 | [],_::_,h=>by simp[vm]at h
 | _::_,[],h=>by simp[vm]at h
end
theorem Ft:∀ {a b:Env},tt a b=true→a=b
 | [],[],_=>rfl
 | (i,a)::l,(j,b)::m,h=>by
  simp only[tt,ah,decide_eq_true_eq]at h
  rw[h.1.1,xG h.1.2,Ft h.2]
 | [],_::_,h=>by simp[tt]at h
 | _::_,[],h=>by simp[tt]at h
theorem Kc:∀ {a b:List (Value×D)},vo a b=true→a=b
 | [],[],_=>rfl
 | (i,a)::l,(j,b)::m,h=>by
  simp only[vo,ah]at h
  rw[Ke h.1.1,xG h.1.2,Kc h.2]
 | [],_::_,h=>by simp[vo]at h
 | _::_,[],h=>by simp[vo]at h
theorem Pq{a b:Ob}(h:Fv a b=true):a=b:=by
 unfold Fv at h
 split at h
 ·simp only[ah,decide_eq_true_eq]at h;rw[h.1.1,h.1.2,qS h.2]
 ·simp only[ah,decide_eq_true_eq]at h;rw[h.1,Kc h.2]
 ·simp only[ah,decide_eq_true_eq]at h;rw[h.1.1,Ft h.1.2,h.2]
 ·rename_i a p b q
  simp only[ah,decide_eq_true_eq]at h
  have:a=b:=by
   cases a;cases b
   congr 1
   exact dC h.1
  rw[this,h.2]
 ·simp only[ah,decide_eq_true_eq]at h;rw[xG h.1.1,h.1.2,h.2]
 ·rfl
 ·rfl
 ·rfl
 ·cases h
theorem Fu:∀ {a b:U},tu a b=true→a=b
 | [],[],_=>rfl
 | a::l,b::m,h=>by
  simp only[tu,ah]at h
  rw[Pq h.1,Fu h.2]
 | [],_::_,h=>by simp[tu]at h
 | _::_,[],h=>by simp[tu]at h
theorem Fy{a b:St}(h:xH a b=true):a=b:=by
 obtain⟨e,H,m,r⟩:=a
 obtain⟨e',H',m',r'⟩:=b
 simp only[xH,ah,decide_eq_true_eq,beq_iff_eq]at h
 obtain⟨⟨⟨h1,h2⟩,h3⟩,h4⟩:=h
 rw[Ft h1,Fu h2,h3,h4]
theorem Pr{a b:Out}(h:Fw a b=true):a=b:=by
 unfold Fw at h
 split at h
 ·rw[Fy h]
 ·simp only[ah,decide_eq_true_eq]at h;rw[h.1,Fy h.2]
 ·rw[Fy h]
 ·cases h
theorem Ps{a b:D×U}(h:Fx a b=true):a=b:=by
 simp only[Fx,ah]at h
 exact Prod.ext (xG h.1) (Fu h.2)
theorem D1{α:Type}{eq:α→α→Bool}(h:∀ a b,eq a b=true→a=b):∀ {l:List α} {a:α},a∈l→a∈once eq l
 | [a],b,hb=>hb
 | a::b::l,c,hc=>by
  rw[once]
  ·split
   ·rename_i QH
    rcases ax.1 hc with rfl|hc
    ·obtain⟨d,hd,Gc⟩:=List.any_eq_true.1 QH
     rw[h _ _ Gc];exact hd
    ·exact D1 h hc
   ·rcases ax.1 hc with rfl|hc
    ·exact cL
    ·exact aO _ (D1 h hc)
  ·intro e;cases e
theorem qL{α β:Type}{f:α→Option (List β)}:∀ {l:List α} {r:List β},nv l f=some r→∀ a∈l,∃ y,f a=some y∧∀ b∈y,b∈r
 | [],r,_,a,ha=>by simp at ha
 | [a],r,h,b,hb=>by
  simp only[List.mem_singleton]at hb
  subst hb
  exact⟨r,h,fun _ h=>h⟩
 | a::b::l,r,h,c,hc=>by
  rw[nv]at h
  ·split at h
   ·rename_i x y hx hy
    cases h
    rcases ax.1 hc with rfl|hc
    ·exact⟨x,hx,fun _ h=>aS _ h⟩
    ·obtain⟨z,hz,Sy⟩:=qL hy c hc
     exact⟨z,hz,fun d hd=>br _ (Sy d hd)⟩
   ·cases h
  ·intro e;cases e
section
variable{T:fE}{cl:rE}{rd:uU}
def pO(l:List Out):lD→Prop:=fun r=>∃ o∈l,r = .out o
def w5(l:List St):lD→Prop:=fun r=>∃ s∈l,r = .out (.norm s)
def nO(l:List (D×U)):lD→Prop:=fun r=>∃ p∈l,r = .val p.1 p.2
def mR(T:fE)(cl:rE):Prop:=∀ f args H l,cl f args H=some l→Ev T (.call f args H) (nO l)
def Cb(T:fE)(rd:uU):Prop:=∀ c s l,rd c s=some l→Ev T (.code c s) (pO l)
theorem pO.out{l:List Out}{o:Out}(h:pO l (.out o)):o∈l:=by
 obtain⟨o',h1,h2⟩:=h
 cases h2;exact h1
theorem nO.val{l:List (D×U)}{d:D}{H:U}(h:nO l (.val d H)):(d,H)∈l:=by
 obtain⟨o',h1,h2⟩:=h
 cases h2;exact h1
theorem w5.sub{a b:List St}(h:∀ s∈a,s∈b){r:lD}(hr:w5 a r):w5 b r:=by
 obtain⟨s,h1,h2⟩:=hr
 exact⟨s,h s h1,h2⟩
theorem pO.sub{a b:List Out}(h:∀ s∈a,s∈b){r:lD}(hr:pO a r):pO b r:=by
 obtain⟨s,h1,h2⟩:=hr
 exact⟨s,h s h1,h2⟩
theorem P'{S:List Nat}{s:St}{g:Option (Nat×Bool)}{b:Bool}(h:guardOf s.env.get g=some b):guardOf (jh S s).env.get g=some b:=by
 cases g with
 | none=>exact h
 | some p=>
  simp only[guardOf,jh]at h ⊢
  have e:Env.get (s.env.map fun p=>(p.1,eB (fO (jw s.H S)) s.H 40 p.2)) p.1=eB (fO (jw s.H S)) s.H 40 (s.env.get p.1):=by
   generalize s.env=env
   induction env with
   | nil=>rfl
   | cons q r ih=>
    obtain⟨j,d⟩:=q
    simp only[List.map_cons,Env.p9]
    split
    ·rfl
    ·exact ih
  rw[e]
  split at h
  ·rename_i x hx
   rw[hx]
   have:eB (fO (jw s.H S)) s.H 40 (.val (.bool x)) = .val (.bool x):=by unfold eB;rfl
   rw[this]
   exact h
  ·rename_i vs hx
   rw[hx]
   have:eB (fO (jw s.H S)) s.H 40 (.val (.tuple vs)) = .val (.tuple vs):=by unfold eB;rfl
   rw[this]
   exact h
  ·cases h
theorem Ns(ff:mR T cl){e:eV}{r:List eV}{f:FuncId}{fn:ey}{s:St}{l:List St}{R:lD→Prop}(hg:guardOf s.env.get e.guard=some true)(hf:T.fn f=some fn)(hp:fn.full=false)
  (h:Eg cl e f s=some l) (k:∀ s'∈l,Ev T (.ops r s') R):Ev T (.ops (e::r) s) R:=by
 unfold Eg at h
 split at h
 ·cases h
 ·rename_i f' args hc
  split at h
  ·rename_i e1
   subst e1
   split at h
   ·rename_i l0 gO
    have hm:=qL h
    refine .xm hg hc hf hp (ff _ _ _ _ gO) (fun d Hn hd=>?_) fun d Hn s' hd fm=>?_
    ·obtain⟨y,hy,_⟩:=hm _ hd.val
     dsimp only at hy
     split at hy
     ·rename_i q;rw[q];rfl
     ·cases hy
    ·obtain⟨y,hy,iM⟩:=hm _ hd.val
     dsimp only at hy
     rw[fm]at hy
     cases hy
     exact k s' (iM s' (by simp))
   ·cases h
  ·cases h
theorem Ze(ff:mR T cl){e:eV}{r:List eV}{s:St}{l:List St}{R:lD→Prop}(hg:guardOf s.env.get e.guard=some true)
  (h:HS T cl e s=some l) (k:∀ s'∈l,Ev T (.ops r s') R):Ev T (.ops (e::r) s) R:=by
 unfold HS at h
 split at h
 ·cases h
 ·rename_i f args hc
  split at h
  ·cases h
  ·rename_i fn hf
   split at h
   ·rename_i qZ
    split at h
    ·rename_i l0 gO
     cases h
     refine .xl hg hc hf qZ (ff _ _ _ _ gO) fun d H' hd=>k _ ?_
     exact aw.2 ⟨(d,H'),hd.val,rfl⟩
    ·cases h
   ·rename_i qZ
    split at h
    ·rename_i gG
     simp only[ah,cp]at gG
     refine .jh (M9 s args) ?_ (Ns ff (P' hg) hf qZ h k)
     rw[gG.1.2];rfl
    ·exact Ns ff hg hf qZ h k
theorem Zg(qj:Cb T rd){e:eV}{r:List eV}{s:St}{v:Nat}{args:List D}{l:List St}{R:lD→Prop}(hg:guardOf s.env.get e.guard=some true)(hc:yieldOf s.env.get e.op=some (v,args))
  (h:HV T rd e s v args=some l) (k:∀ s'∈l,Ev T (.ops r s') R):Ev T (.ops (e::r) s) R:=by
 unfold HV at h
 split at h
 ·rename_i rf env0 hv
  split at h
  ·rename_i Rd hR
   split at h
   ·rename_i hl
    split at h
    ·rename_i la sB
     split at h
     ·rename_i lb Rn
      have hA:=qL Rn
      have hB:=qL h
      refine .Cj hg hc hv hR hl (qj _ _ _ sB) (Rb:=pO lb) (fun o ho=>?_) (fun s1 iS kL kR=>?_) (fun o ho=>?_) fun o iH ho l3=>?_
      ·obtain⟨y,hy,_⟩:=hA o ho.out
       split at hy
       ·rename_i s1
        split at hy
        ·rename_i Nd iS kR
         split at hy
         ·rename_i e1;subst e1;exact⟨rfl,iS,kR⟩
         ·cases hy
        ·cases hy
       ·cases hy
      ·obtain⟨y,hy,iM⟩:=hA _ kL.out
       simp only[kR,if_true]at hy
       exact(qj _ _ _ hy).mono fun r hr=>hr.sub iM
      ·obtain⟨y,hy,_⟩:=hB o ho.out
       split at hy
       ·rename_i Nf iH l3
        split at hy
        ·rename_i e2;subst e2;exact⟨iH,l3⟩
        ·cases hy
       ·cases hy
      ·obtain⟨y,hy,iM⟩:=hB o ho.out
       simp only[l3,if_true]at hy
       cases hy
       exact k _ (iM _ (by simp))
     ·cases h
    ·cases h
   ·cases h
  ·cases h
 ·cases h
theorem Zf{e:eV}{r:List eV}{s:St}{x:X}{l:List St}{R:lD→Prop}(hg:guardOf s.env.get e.guard=some true)(fG:e.op = .nextM x)
  (h:HU e s x=some l) (k:∀ s'∈l,Ev T (.ops r s') R):Ev T (.ops (e::r) s) R:=by
 unfold HU at h
 split at h
 ·rename_i v hx
  split at h
  ·rename_i m since seen hv
   split at h
   ·rename_i kk es hm
    split at h
    ·rename_i hs
     dsimp only at h
     refine .next hg fG hx hv hm hs (fun h0=>?_) fun i kv d hi tZ=>?_
     ·rw[if_pos]at h
      ·cases h
       exact k _ (by simp)
      ·rw[cp,c7]
       intro i hi
       have:=h0 i (by simpa using hi)
       simpa using this
     ·have e7:=(af.1 hi).1
      rw[if_neg]at h
      ·cases h
       refine k _ (bR.2 ⟨i,aT.2 ⟨by simpa using e7,by simpa using tZ⟩,?_⟩)
       simp only[hi]
      ·rw[cp,c7]
       intro h0
       have:=h0 i (by simpa using e7)
       simp at this
       exact tZ this
    ·cases h
   ·cases h
  ·cases h
 ·cases h
theorem zr(ff:mR T cl)(qj:Cb T rd):∀ (l:List eV) (s:St) (r:List St),qx T cl rd l s=some r→Ev T (.ops l s) (w5 r)
 | [],s,r,h=>by cases h;exact .nil ⟨s,by simp,rfl⟩
 | e::r,s,res,h=>by
  have go:∀ {l:List St},(nv l fun s'=>qx T cl rd r s')=some res→∀ s'∈l,Ev T (.ops r s') (w5 res):=fun hl s' fm=>by
   obtain⟨y,hy,iM⟩:=qL hl s' fm
   exact(zr ff qj r s' y hy).mono fun _ hr=>hr.sub iM
  simp only[qx]at h
  split at h
  ·cases h
  ·rename_i hg;exact .off hg (zr ff qj r _ _ h)
  ·rename_i hg
   split at h
   ·rename_i d δ ha;exact .op hg ha (zr ff qj r _ _ h)
   ·split at h
    ·rename_i d δ ha;exact .uO hg ha (zr ff qj r _ _ h)
    ·split at h
     ·rename_i x fG
      split at h
      ·rename_i l hl;exact Zf hg fG hl (go h)
      ·cases h
     ·split at h
      ·rename_i v args hc
       split at h
       ·rename_i l hl;exact Zg qj hg hc hl (go h)
       ·cases h
      ·split at h
       ·cases h
       ·rename_i hc
        split at h
        ·rename_i l hl;exact Ze ff hg hl (go h)
        ·cases h
theorem uL(ff:mR T cl)(st:Bool):∀ (l:List eV) (s:St) (rs:List Rc) (s':St),rA T cl st l s=some (rs,s')→Ev T (.trace l s) (fun r=>r = .tr rs s')
 | [],s,rs,s',h=>by cases h;exact .zJ rfl
 | e::r,s,rs,s',h=>by
  simp only[rA]at h
  split at h
  ·cases h
  ·rename_i hg
   split at h
   ·rename_i h1;cases h;exact .zK hg (uL ff st r _ _ _ h1) fun _ _ h=>by cases h;rfl
   ·cases h
  ·rename_i hg
   split at h
   ·rename_i d δ ha
    split at h
    ·rename_i h1;cases h;exact .zL hg ha (uL ff st r _ _ _ h1) fun _ _ h=>by cases h;rfl
    ·cases h
   ·split at h
    ·cases h
    ·rename_i f args hc
     split at h
     ·cases h
     ·rename_i fn hf
      split at h
      ·cases h
      ·rename_i qZ
       have n4:fn.full=false:=by
        simp only[bW,not_or]at qZ
        simpa using qZ.1
       split at h
       ·rename_i d gO
        by_cases hr:(if eT args=true then closed d else flat d)=true
        ·rw[if_pos hr]at h
         split at h
         ·rename_i h1;cases h
          refine .zG hg hc hf n4 (ff _ _ _ _ gO) (fun d' Hn hd=>?_) hr (uL ff st r _ _ _ h1) fun _ _ h=>by cases h;rfl
          have:=hd.val
          simp only[List.mem_singleton,dx]at this
          exact this
         ·cases h
        ·rw[if_neg hr]at h
         split at h
         ·rename_i g qM fG
          split at h
          ·rename_i v l gq
           split at h
           ·rename_i gG
            simp only[ah,ao,decide_eq_true_eq]at gG
            obtain⟨⟨⟨c1,c2⟩,c3⟩,c4⟩:=gG
            split at h
            ·rename_i h1;cases h
             have mE:some (g,qM.map (ev s.env.get))=some (f,args):=by rw[← hc,fG];rfl
             cases mE
             refine .zI (v:=v) hg fG rfl hf n4 (fun u hu=>?_) (by rw[gq];simp) c2 c3 (ff _ _ _ _ gO) (fun d' Hn hd=>?_) c4 (uL ff st r _ _ _ h1) fun _ _ h=>by cases h;rfl
             ·rw[gq]at hu
              rcases ax.1 hu with h|h
              ·exact h
              ·exact c1 u h
             ·have:=hd.val
              simp only[List.mem_singleton,dx]at this
              exact this
            ·cases h
           ·cases h
          ·cases h
         ·cases h
       ·rename_i d ob gO
        split at h
        ·rename_i g qM fG
         by_cases hr:(if eT args=true then jP d&&kO ob else lN d&&lT ob)=true
         ·rw[if_pos hr]at h
          split at h
          ·rename_i h1;cases h
           have mE:some (g,qM.map (ev s.env.get))=some (f,args):=by rw[← hc,fG];rfl
           cases mE
           refine .zH hg fG rfl hf n4 (ff _ _ _ _ gO) (fun d' Hn hd=>?_) hr (uL ff st r _ _ _ h1) fun _ _ h=>by cases h;rfl
           have:=hd.val
           simp only[List.mem_singleton,dx]at this
           exact this
          ·cases h
         ·rw[if_neg hr]at h;cases h
        ·cases h
       ·cases h
theorem HT(ff:mR T cl)(qj:Cb T rd){lp:Nat→List Nat→IR→St→Option (List Out)}(Rs:∀ n live a s l,lp n live a s=some l→Ev T (.loop n live a s) (pO l)) :
  ∀ (c:IR) (s:St) (l:List Out),mN T cl lp rd c s=some l→Ev T (.code c s) (pO l):=by
 intro c
 induction c with
 | skip=>intro s l h;cases h;exact .skip ⟨_,by simp,rfl⟩
 | ops ops=>
  intro s l h
  simp only[mN]at h
  split at h
  ·rename_i l0 h1
   cases h
   refine .xA ((zr ff qj _ _ _ h1).mono fun r hr=>?_)
   obtain⟨s',fm,rfl⟩:=hr
   exact⟨_,aw.2 ⟨s',fm,rfl⟩,rfl⟩
  ·cases h
 | jG gJ ops es=>intro s l h;simp[mN]at h
 | draw gJ ops=>
  intro s l h
  simp only[mN]at h
  split at h
  ·rename_i rs s' h1
   split at h
   ·rename_i hp;cases h;exact .draw (uL ff _ _ _ _ _ h1) fun _ _ h=>by cases h;exact⟨hp,_,by simp,rfl⟩
   ·cases h
  ·split at h
   ·rename_i hm
    split at h
    ·rename_i rs s' h1
     split at h
     ·rename_i hp;cases h
      refine .xM (List.range s.H.length) ?_ (.draw (uL ff _ _ _ _ _ h1) fun _ _ h=>by cases h;exact⟨hp,_,by simp,rfl⟩)
      rw[cp]at hm
      rw[hm];rfl
     ·cases h
    ·cases h
   ·cases h
 | seq a b l4 qn=>
  intro s l h
  simp only[mN]at h
  split at h
  ·rename_i l0 h1
   have hm:=qL h
   refine .seq (l4 _ _ h1) (fun s' fm=>?_) fun o ho eH=>?_
   ·obtain⟨y,hy,iM⟩:=hm _ fm.out
    exact(qn _ _ hy).mono fun _ hr=>hr.sub iM
   ·obtain⟨y,hy,iM⟩:=hm _ ho.out
    cases o with
    | norm=>cases eH
    | exit id s'=>cases hy;exact⟨_,iM _ (by simp),rfl⟩
    | ret s'=>cases hy;exact⟨_,iM _ (by simp),rfl⟩
  ·cases h
 | cond c a b l4 qn=>
  intro s o h
  simp only[mN]at h
  split at h
  ·rename_i hc;exact .cond (x:=true) hc (l4 _ _ h)
  ·rename_i hc;exact .cond (x:=false) hc (qn _ _ h)
  ·cases h
 | block id live a l4=>
  intro s l h
  simp only[mN]at h
  split at h
  ·rename_i l0 h1
   cases h
   refine .block (l4 _ _ h1) fun o ho=>⟨_,D1 (fun _ _=>Pr) (aw.2 ⟨o,ho.out,rfl⟩),rfl⟩
  ·cases h
 | loop live a l4=>intro s o h;exact .loop (Rs _ _ _ _ _ h)
 | jQ rf live x=>
  intro s l h
  simp only[mN]at h
  split at h
  ·cases h
  ·rename_i lx
   split at h
   ·rename_i f first cap hx
    split at h
    ·rename_i fn hf
     split at h
     ·rename_i qZ
      split at h
      ·rename_i l0 gO
       have hm:=qL h
       refine .jQ (by simpa using lx) hx hf qZ (ff _ _ _ _ gO) fun d H' hd=>?_
       obtain⟨y,hy,iM⟩:=hm _ hd.val
       dsimp only at hy
       split at hy
       ·rename_i Nc env st kj
        split at hy
        ·rename_i e;subst e
         split at hy
         ·rename_i o ho
          cases hy
          exact⟨env,st,o,kj,ho,_,iM _ (by simp),rfl⟩
         ·cases hy
        ·cases hy
       ·cases hy
      ·cases h
     ·cases h
    ·cases h
   ·cases h
 | exit id=>intro s o h;cases h;exact .exit ⟨_,by simp,rfl⟩
 | ret=>intro s o h;cases h;exact .ret ⟨_,by simp,rfl⟩
 | bad=>intro s o h;cases h
 | fz _ _=>intro s o h;cases h
 | pa _ _ _=>intro s o h;cases h
end
section
variable{T:fE}
def qH(T:fE)(M:pP):Prop:=∀ p∈M,Ev T (.call p.1 p.2.1 []) (nO p.2.2)
theorem qH.nil(T:fE):qH T []:=fun p hp=>by cases hp
theorem qH.cons{T:fE}{f:FuncId}{args:List D}{l:List (D×U)}{M:pP}(h:Ev T (.call f args []) (nO l))(t:qH T M):qH T ((f,args,l)::M):=fun p hp=>by
 rcases ax.1 hp with rfl|hp
 ·exact h
 ·exact t p hp
theorem YT{M:pP}(hM:qH T M){f:FuncId}{args:List D}{l:List (D×U)}(h:zh M f args=some l):Ev T (.call f args []) (nO l):=by
 induction M with
 | nil=>cases h
 | cons p M ih=>
  obtain⟨g,qM,l'⟩:=p
  have sr:qH T M:=fun q hq=>hM q (by simp[hq])
  simp only[zh]at h
  split at h
  ·rename_i hg
   split at h
   ·rename_i ha
    cases h
    have:=hM (g,qM,l) (by simp)
    rw[qS ha,cA hg]at this
    exact this
   ·exact ih sr h
  ·exact ih sr h
theorem Nv{M:pP}(hM:qH T M):∀ k:Nat,(∀ n live a s l,uK T M k n live a s=some l→Ev T (.loop n live a s) (pO l))∧Cb T (wv T M k)∧mR T (run T M k)
 | 0=>⟨fun _ _ _ _ _ h=>by simp[uK]at h,fun _ _ _ h=>by simp[wv]at h,fun _ _ _ _ h=>by simp[run]at h⟩
 | k+1=>by
  obtain⟨i1,i2,i3⟩:=Nv hM k
  refine⟨fun n live a s l h=>?_,fun c s l h=>?_,fun f args H l h=>?_⟩
  ·simp only[uK]at h
   split at h
   ·rename_i l0 h1
    have hm:=qL h
    refine .sL (HT i3 i2 i1 _ _ _ h1) (fun s' fm=>?_) fun o ho eH=>?_
    ·obtain⟨y,hy,iM⟩:=hm _ fm.out
     exact(i1 _ _ _ _ _ hy).mono fun _ hr=>hr.sub iM
    ·obtain⟨y,hy,iM⟩:=hm _ ho.out
     cases o with
     | norm=>cases eH
     | exit id s'=>cases hy;exact⟨_,iM _ (by simp),rfl⟩
     | ret s'=>cases hy;exact⟨_,iM _ (by simp),rfl⟩
   ·cases h
  ·simp only[wv]at h
   exact HT i3 i2 i1 _ _ _ h
  ·simp only[run]at h
   split at h
   ·rename_i l0 hk
    cases h
    cases H with
    | nil=>exact YT hM hk
    | cons=>cases hk
   split at h
   ·cases h
   ·rename_i fn hf
    split at h
    ·rename_i hl
     split at h
     ·rename_i l0 h1
      split at h
      ·rename_i ps h2
       cases h
       have hm:=qL h2
       refine .call fn.own hf hl (HT i3 i2 i1 _ _ _ h1) fun o ho=>?_
       obtain⟨y,hy,iM⟩:=hm _ ho.out
       split at hy
       ·rename_i p hp
        cases hy
        exact⟨p.1,p.2,hp,p,D1 (fun _ _=>Ps) (iM _ (by simp)),rfl⟩
       ·cases hy
      ·cases h
     ·cases h
    ·cases h
theorem uM{M:pP}(hM:qH T M){k:Nat}{f:FuncId}{args:List D}{H:U}{l:List (D×U)}(h:run T M k f args H=some l):Ev T (.call f args H) (nO l):=(Nv hM k).2.2 f args H l h
end
end Go.AL
namespace Go.AL
open Go
@[reducible] def o(k:Nat)(op:fR):eV:={ dst:=some k,op:=op,guard:=none }
@[reducible] def u(op:fR):eV:={ dst:=none,op:=op,guard:=none }
@[reducible] def og(j:Nat)(b:Bool)(k:Nat)(op:fR):eV:={ dst:=some k,op:=op,guard:=some (j,b) }
@[reducible] def ug(j:Nat)(b:Bool)(op:fR):eV:={ dst:=none,op:=op,guard:=some (j,b) }
@[reducible] def M(k j:Nat):eV:=o k (.mv (.t j))
@[reducible] def L(k j:Nat):eV:=o k (.ld1 (.t j))
@[reducible] def N(k n j:Nat):eV:=o k (.ldN n (.t j))
@[reducible] def F(k i j:Nat):eV:=o k (.fieldA i (.t j))
@[reducible] def A(k:Nat)(p:BinOp)(j:Nat)(n:Int):eV:=o k (.arith p (.t j) (.c (.i n)))
@[reducible] def B(k:Nat)(p:BinOp)(i j:Nat):eV:=o k (.arith p (.t i) (.t j))
@[reducible] def I(k n i j:Nat):eV:=o k (.idxA n (.t i) (.t j))
@[reducible] def cq(k:Nat)(n:Int):eV:=o k (.mv (.c (.i n)))
@[reducible] def sq(n i j:Nat):eV:=u (.stN n (.t i) (.t j))
@[reducible] def xq(k t j:Nat):eV:=o k (.box t (.t j))
@[reducible] def zq(k j:Nat):eV:=o k (.len .slice (.t j))
@[reducible] def pq(k a b:Nat):eV:=o k (.pick (.t a) (.c (.b true)) (.t b))
@[reducible] def rq(k a b:Nat):eV:=o k (.pick (.t a) (.t b) (.c (.b false)))
@[reducible] def kq(k f j:Nat):eV:=o k (.call f [.t j])
@[reducible] def G(i:Nat)(b:Bool)(k j:Nat):eV:=og i b k (.mv (.t j))
@[reducible] def eJ(i:Nat)(b:Bool)(k j:Nat):eV:=og i b k (.ld1 (.t j))
@[reducible] def eP(i:Nat)(b:Bool)(k n j:Nat):eV:=og i b k (.fieldA n (.t j))
@[reducible] def eZ(i:Nat)(b:Bool)(k:Nat)(p:BinOp)(j:Nat)(n:Int):eV:=og i b k (.arith p (.t j) (.c (.i n)))
@[reducible] def fQ(i:Nat)(b:Bool)(k:Nat)(p:BinOp)(j n:Nat):eV:=og i b k (.arith p (.t j) (.t n))
@[reducible] def nE(k:Nat):eV:=o k (.mv (.c .emp))
@[reducible] def nF(k:Nat):eV:=o k (.mv (.c (.b false)))
@[reducible] def nT(k:Nat):eV:=o k (.mv (.c (.b true)))
@[reducible] def Q(l:List eV)(b:IR):IR:=.seq (.ops l) b
@[reducible] def cx(n k:Nat):IR:=.cond (.t n) .skip (.exit k)
def nth:List (Option ey)→Nat→Option ey
 | [],_=>none
 | a::_,0=>a
 | _::l,n+1=>nth l n
def assoc:List (Nat×mb)→Nat→Option mb
 | [],_=>none
 | (k,R)::l,n=>if k=n then some R else assoc l n
def elem(f:Nat):List Nat→Bool
 | []=>false
 | a::l=>if a=f then true else elem f l
def EX(fn:Func):Code:=fn.body.getD .skip
def Eb(P:Program)(rf:Nat):Array Tmp:=match sT P rf with
 | some (_,ps,_,_)=>ps
 | none=>#[]
def D9(P:Program)(rf:Nat):Code:=match sT P rf with
 | some (_,_,a,_)=>a
 | none=>.skip
def D'(P:Program)(rf:Nat):Code:=match sT P rf with
 | some (_,_,_,b)=>b
 | none=>.skip
section
variable{P:Program}{G:GT}
theorem P3{f:FuncId}{fn:ey}{func:Func}{code:Code}{hs fm:List (List Nat)}(h1:P.funcs[f]? = some func)(h2:func.body=some code)(h3:nB P f=true)(h4:(kX code).length≤64)
  (h5:cC P G fn.ntmps (64*f) hs code=some (fn.body,fm)) (h6:func.ntmps=fn.ntmps) (h7:te P func.results.toList=some fn.results):wZ P G f fn:=⟨⟨func,code,hs,fm,h1,h2,h3,h4,h5,h6,h7⟩⟩
theorem Ea{rf:Nat}{R:mb}{N:Nat}{ps:Array Tmp}{ac bc:Code}(ha hb:List (List Nat))(h1:G.rt rf=some (N,ps,ac,bc))(h2:ps.toList=R.params)(h3:(R.params.all fun p=>decide (p<N))=true)
  (h4:kX ac = []∧kX bc = []) (h5:cC P G N 0 ha ac=some (R.a,[])) (h6:cC P G N 0 hb bc=some (R.b,[])):rL P G rf R:=
 ⟨⟨N,ps,ac,bc,h1,h2,h3,E3 (fun i x hx=>by rw[h4.1]at hx;cases hx) h5,E3 (fun i x hx=>by rw[h4.2]at hx;cases hx) h6⟩⟩
inductive qF(P:Program)(G:GT):Nat→List (Option ey)→Prop
 | nil (k:Nat):qF P G k []
 | has {k:Nat} {fn:ey} {l:List (Option ey)} (h:wZ P G k fn) (t:qF P G (k+1) l):qF P G k (some fn::l)
 | no {k:Nat} {l:List (Option ey)} (t:qF P G (k+1) l):qF P G k (none::l)
inductive s9(P:Program)(G:GT):List (Nat×mb)→Prop
 | nil:s9 P G []
 | cons {k:Nat} {R:mb} {l:List (Nat×mb)} (h:rL P G k R) (t:s9 P G l):s9 P G ((k,R)::l)
theorem qF.get:∀ {l:List (Option ey)} {k:Nat},qF P G k l→∀ (i:Nat) (fn:ey),nth l i=some fn→wZ P G (k+i) fn:=by
 intro l k h
 induction h with
 | nil=>intro i fn hi;cases hi
 | has h t ih=>
  intro i fn hi
  cases i with
  | zero=>cases hi;exact h
  | succ i=>
   have:=ih i fn hi
   rwa [bf,di 1 i]at this
 | no t ih=>
  intro i fn hi
  cases i with
  | zero=>cases hi
  | succ i=>
   have:=ih i fn hi
   rwa [bf,di 1 i]at this
theorem s9.get{l:List (Nat×mb)}(h:s9 P G l):∀ (i:Nat) (R:mb),assoc l i=some R→rL P G i R:=by
 induction h with
 | nil=>intro i R hi;cases hi
 | @cons k R0 l h t ih=>
  intro i R hi
  simp only[assoc]at hi
  split at hi
  ·rename_i e;subst e;cases hi;exact h
  ·exact ih i R hi
theorem Z4{l:List (Option ey)}{r:List (Nat×mb)}{so:FuncId→Option Nat}(vR:G.rt=sT P)(h:qF P G 0 l)(h2:s9 P G r){si:FuncId→Bool}(h3:∀ f sz,so f=some sz→qK P f sz)(h4:∀ f,si f=true→ta P f):ER P G { fn:=nth l,round:=assoc r,sort:=so,oC:=si } where
 sort:=h3
 oC:=h4
 rt:=vR
 fn f fn hf:=by
  have:=h.get f fn hf
  rwa [aX]at this
 round:=h2.get
