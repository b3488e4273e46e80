/- Part 6 of TableHurry. -/
import Derived.Test.YtnaefnajkaohgaaGreatDoorG05
import Derived.Test.YtnaefnajkaohgaaGreatDoorG04
import Derived.KernelRfl
set_option linter.all false
namespace Go.AL
open Go
def CC(P:Program)(G:GT)(g:FuncId)(args:List D)(d:D)(Hn:et):Prop:=nI P g=true∧rR P G g args [] d Hn
def outs(R:lJ→Prop):Out→Prop:=fun o=>R (.out o)
def wS(R:lJ→Prop):D→et→Prop:=fun d H=>R (.val d H)
def Good(P:Program)(G:GT):tj→(lJ→Prop)→Prop
 | .ops l s,R=>∀ (N:Nat) (A:Array Oper) (ops:List Oper),lM P G N A ops=some l →
   ∀ (ro:Option Nat) (n:Nat) (Q:Exit→Act→World→Prop) (c:Ctx) (w:World) (a:Act),(s.fV=false→ro=none)→iT G N c w s a→qQ G N s.H.length s.fV c s.H w (outs R) Q→wpListIn (FW ro) n P A Q ops a w
 | .code ir s,R=>∀ (N:Nat) (code:Code),kE P G N ir code →
   ∀ (ro:Option Nat) (n:Nat) (Q:Exit→Act→World→Prop) (c:Ctx) (w:World) (a:Act),(s.fV=false→ro=none)→iT G N c w s a→qQ G N s.H.length s.fV c s.H w (outs R) Q→code.wpIn (FW ro) n P Q a w
 | .loop n0 _ ir s,R=>n0≤s.H.length→∀ (N:Nat) (code:Code),kE P G N ir code →
   ∀ (ro:Option Nat) (n:Nat) (Q:Exit→Act→World→Prop) (c:Ctx) (w:World) (a:Act),(s.fV=false→ro=none)→iT G N c w s a→qQ G N n0 s.fV c s.H w (outs R) Q→Ck (FW ro) n P code Q a w
 | .call f args H,R=>pT P G f args H (wS R)
 | .trace l s,R=>∃ rs s',R (.tr rs s')∧s.H.length≤s'.H.length∧s'.marks=s.marks∧s'.fV=s.fV∧∀ (K k0:Nat),s'.H.length≤K→∃ items:List kb,items.map (·.e)=l∧items.map (·.rc)=rs∧items.map (·.k)=List.range' k0 l.length ∧
   Tx (CC P G) s.env.get (s.H++room (K-s.H.length)) items s'.env.get (s'.H++room (K-s'.H.length))
section
variable{P:Program}{G:GT}{T:fH}
theorem qQ.mono{N n m:Nat}{fV:Bool}{c c1:Ctx}{H H1:et}{w w1:World}{R:Out→Prop}{Q:Exit→Act→World→Prop}(h:qQ G N n fV c H w R Q)(hs:Step n c H w c1 H1 w1)(hm:n≤m):qQ G N m fV c1 H1 w1 R Q:=
 fun o c' w' a' hR hr hl eB eJ=>h o c' w' a' hR hr (Nat.le_trans hm hl) eB (hs.trans eJ hm)
theorem xN{N:Nat}{A:Array Oper}{o:Oper}{r:List Oper}{l:List eX}(h:lM P G N A (o::r)=some l) :
  ∃ e l',l=e::l'∧qc P G N A o=some e∧lM P G N A r=some l':=by
 simp only[lM]at h
 split at h
 ·rename_i e l' he hl
  cases h
  exact⟨e,l',rfl,he,hl⟩
 ·cases h
theorem Pt{N:Nat}{A:Array Oper}{ops:List Oper}(h:lM P G N A ops=some []):ops = []:=by
 cases ops with
 | nil=>rfl
 | cons o r=>
  obtain⟨e,l',h1,_⟩:=xN h
  cases h1
theorem Kc{N:Nat}{A:Array Oper}:∀ {l es:List eX} {ops:List Oper},lM P G N A ops=some (l++es)→∃ o1 o2,ops=o1++o2∧lM P G N A o1=some l∧lM P G N A o2=some es
 | [],es,ops,h=>⟨[],ops,rfl,rfl,h⟩
 | e::l,es,ops,h=>by
  cases ops with
  | nil=>cases h
  | cons o r=>
   obtain⟨e',l',h1,h2,h3⟩:=xN h
   cases h1
   obtain⟨o1,o2,rfl,h4,h5⟩:=Kc h3
   exact⟨o::o1,o2,rfl,by simp only[lM,h2,h4],h5⟩
theorem Kd{N:Nat}{A:Array Oper}:∀ {ops:List Oper} {l:List eX},lM P G N A ops=some l→ops.length=l.length∧∀ (i:Nat) (o:Oper) (e:eX),ops[i]? = some o→l[i]? = some e→qc P G N A o=some e:=by
 intro ops
 induction ops with
 | nil=>intro l h;cases h;exact⟨rfl,fun i o e h=>by simp at h⟩
 | cons o r Hf=>
  intro l h
  obtain⟨e,l',rfl,h1,h2⟩:=xN h
  obtain⟨q1,q2⟩:=Hf h2
  refine⟨by simp[q1],fun i o' e' ho he=>?_⟩
  cases i with
  | zero=>simp at ho he;subst ho;subst he;exact h1
  | succ i=>exact q2 i o' e' (by simpa using ho) (by simpa using he)
theorem tF{N:Nat}{A:Array Oper}{ops:List Oper}{e:eX}{l:List eX}(h:lM P G N A ops=some (e::l)) :
  ∃ o r,ops=o::r∧qc P G N A o=some e∧lM P G N A r=some l:=by
 cases ops with
 | nil=>cases h
 | cons o r=>
  obtain⟨e',l',h1,h2,h3⟩:=xN h
  cases h1
  exact⟨o,r,rfl,h2,h3⟩
theorem Of{N:Nat}{c:Ctx}{w:World}{s:St}{a:Act}{ro:Option Nat}{n:Nat}{o:Oper}{io:fY}{f:FuncId}{args:List D}{next:Act→World→Prop}{Q:Exit→Act→World→Prop}(hs:iT G N c w s a)(hc:ko P G o=some io)
  (hd:nY N o.dst=true) (gU:iw s.env.get io=some (f,args)) (jl:nI P f=true) {R:D→et→Prop}
  (gR:∀ vs:List Value,gG c w vs args→Calls P f vs.toArray w fun e w'=>∃ v c' d H',e = .returned v∧R d H'∧eP G c' H' w'∧ew c' w' v d∧Step s.H.length c s.H w c' H' w')
  (k:∀ d H' c' w' a',R d H'→iT G N c' w' { s with env:=put s.env o.dst d,H:=H' } a'→Step s.H.length c s.H w c' H' w'→next a' w'):o.wpIn (FW ro) n P a w next Q:=by
 obtain⟨vs,gi,gC⟩:=Ew hs.eB hs.env hc gU jl
 refine⟨fun _ _=>trivial,?_⟩
 rw[Oper.semAt_plain (FW ro) a.eval o (uL hc),gi]
 refine⟨fun h=>by simp[Fence.wide]at h,xE.2 ((gR vs gC).mono ?_)⟩
 rintro e w' ⟨v,c',d,H',rfl,hR,eB,hr,eJ⟩
 exact k d H' c' w' _ hR (hs.next eB eJ hd hr) eJ
theorem On{s s1:St}{dst:Option Nat}{args:List D}{r:D}{Hn:et}(h:after s dst args r Hn=some s1) :
  (if eV args then jX r&&Hn.all kU else lV r&&Hn.all l4)=true∧s1 = { s with env:=put s.env dst (iB s.H.length r),H:=s.H++Hn }:=by
 unfold after at h
 generalize (if eV args=true then jX r&&Hn.all kU else lV r&&Hn.all l4)=b at h
 cases b
 ·cases h
 ·cases h;exact⟨rfl,rfl⟩
theorem Nk{P:Program}{G:GT}{o:Oper}{io:fY}(hc:ko P G o=some io):EL io=false:=by
 unfold ko at hc
 split at hc
 all_goals try simp only[au,ae,aF]at hc
 all_goals (repeat' first|(obtain⟨_,_,hc⟩:=hc)|split at hc|simp only[ae]at hc)
 all_goals first|rfl|(cases hc;done)|(cases hc;rfl)|(split<;>rfl)
theorem YZ{P:Program}{G:GT}{o:Oper}{x:X}(hc:ko P G o=some (.nextM x)):False:=by
 have:=Nk hc
 cases this
theorem Y0{P:Program}{G:GT}{o:Oper}{io:fY}(hc:ko P G o=some io){f:fg}{H:et}{n:Nat}{r:D×Dl}(h:jZ f H n io=some r):False:=by
 have:=Nk hc
 cases io<;>first|(cases h;done)|(cases this;done)
theorem Zk{fn:eA}(s:St)(ms:List Nat):AL.results fn { s with marks:=ms }=AL.results fn s:=by
 have h1:∀ x,wH { s with marks:=ms } x=wH s x:=fun x=>by cases x<;>rfl
 have h2:∀ l,o9 { s with marks:=ms } l=o9 s l:=by
  intro l
  induction l with
  | nil=>rfl
  | cons x r ih=>simp only[o9,h1,ih]
 simp only[AL.results,h2]
theorem QA(hM:P.follows .mixedOrders=true)(hT:E4 P G T){j:tj}{R:lJ→Prop}(h:Ev T j R):Good P G j R:=by
 induction h with
 | @mono j R R' h hi ih=>
  cases j with
  | ops l s=>exact fun N A ops hc ro n Q c w a gg hs hk=>ih N A ops hc ro n Q c w a gg hs fun o c' w' a' hR=>hk o c' w' a' (hi _ hR)
  | code ir s=>exact fun N code hc ro n Q c w a gg hs hk=>ih N code hc ro n Q c w a gg hs fun o c' w' a' hR=>hk o c' w' a' (hi _ hR)
  | loop n0 live ir s=>exact fun hn N code hc ro n Q c w a gg hs hk=>ih hn N code hc ro n Q c w a gg hs fun o c' w' a' hR=>hk o c' w' a' (hi _ hR)
  | call f args H=>exact fun c w vs h1 h2=>(ih c w vs h1 h2).mono fun _ _ ⟨v,c',d,H',he,hR,r⟩=>⟨v,c',d,H',he,hi _ hR,r⟩
  | trace l s=>
   obtain⟨rs,s',h1,h2⟩:=ih
   exact⟨rs,s',hi _ h1,h2⟩
 | @sort f g fn sz v gen t H R α fc l cf hs hg hl fj h0 sE wk tr nt hc hv k pH=>
  obtain⟨func,code,h1,h2,t1,t2,t3,_⟩:=(hT.fn g fn hg).ex
  exact aac (hT.sort f sz hs) t3 fc l hl fj h0 sE cf wk tr nt (fun x hx y hy c w vs h1 h2=>(pH x hx y hy c w vs h1 h2).mono fun _ _ ⟨v,c',d,H',he,hR,r⟩=>⟨v,c',d,H',he,by obtain⟨_,e⟩:=hR;cases e;rfl,r⟩) hv k
 | @wN f sz x H R hs k=>exact Z' (hT.sort f sz hs) (f:=f) (g:=0) k
 | @oL f v gen t H R l hs h0 sE hv k=>exact aae (hT.oL f hs) l h0 sE hv k
 | @nil s R h=>
  intro N A ops hc ro n Q c w a gg hs hk
  rw[Pt hc]
  exact hk _ c w a h rfl (Nat.le_refl _) hs (Step.refl _ _ _ _)
 | @op e r s d δ R hg h t ih=>
  have hle:s.H.length≤(δ.app s.H (Al.last s.H)).length:=E8 δ s.H
  intro N A ops hc ro n Q c w a gg hs hk
  obtain⟨o,r',rfl,ho,jd⟩:=tF hc
  obtain⟨s1,s2,s3,s4⟩:=sv ho
  have hw:=pd hs.env s4 hg
  simp only[wpListIn,hw,if_true]
  have s1:=J8 s1 h
  refine aaw hs s1 s3 (j'.last s.H) h fun c' w' a' fq eJ=>?_
  rw[← s2]at fq
  exact ih N A r' jd ro n Q c' w' a' gg fq (hk.mono eJ hle)
 | @uZ e r s d δ R hg h t ih=>
  have hle:s.H.length≤(δ.app s.H (Al.last s.H)).length:=E8 δ s.H
  intro N A ops hc ro n Q c w a gg hs hk
  obtain⟨o,r',rfl,ho,jd⟩:=tF hc
  obtain⟨s1,s2,s3,s4⟩:=sv ho
  have hw:=pd hs.env s4 hg
  simp only[wpListIn,hw,if_true]
  have s1:=s1.resolve_left fun h2=>Y0 h2 h
  refine aay hs s1 s3 (j'.last s.H) h fun c' w' a' fq eJ=>?_
  rw[← s2]at fq
  exact ih N A r' jd ro n Q c' w' a' gg fq (hk.mono eJ hle)
 | @off e r s R hg t ih=>
  intro N A ops hc ro n Q c w a gg hs hk
  obtain⟨o,r',rfl,ho,jd⟩:=tF hc
  obtain⟨s1,s2,s3,s4⟩:=sv ho
  have hw:=pd hs.env s4 hg
  simp only[wpListIn,hw,bw,if_false]
  refine⟨fun _ _=>trivial,?_⟩
  have fq:=hs.next hs.eB (Step.refl _ _ _ _) s3 (v:=undef) (d:=.val undef) (.val _)
  rw[← s2]at fq
  rw[← s2]
  exact ih N A r' jd ro n Q c w _ gg (by rw[s2]at fq ⊢;exact fq) hk
 | @jk l s R S hm t ih=>
  have hlen:(jk S s).H.length=s.H.length:=FV
  intro N A ops hc ro n Q c w a gg hs hk
  obtain⟨c',fq,eJ,_⟩:=KT hs S
  refine ih N A ops hc ro n Q c' w a gg fq ?_
  rw[hlen]
  exact hk.mono eJ (Nat.le_refl _)
 | @xX code s R S hm t ih=>
  have hlen:(jk S s).H.length=s.H.length:=FV
  intro N code hc ro n Q c w a gg hs hk
  obtain⟨c',fq,eJ,_⟩:=KT hs S
  refine ih N code hc ro n Q c' w a gg fq ?_
  rw[hlen]
  exact hk.mono eJ (Nat.le_refl _)
 | @FT l s R live t ih=>
  intro N A ops hc ro n Q c w a gg hs hk
  exact ih N A ops hc ro n Q c w a gg ⟨hs.eB,vA hs.env live,hs.size,hs.marks⟩ hk
 | @C7 code s R live t ih=>
  intro N code hc ro n Q c w a gg hs hk
  exact ih N code hc ro n Q c w a gg ⟨hs.eB,vA hs.env live,hs.size,hs.marks⟩ hk
 | @xD e r s f args fn R1 R hg hc hf hp h ha t pH ih=>
  intro N A ops l8 ro n Q c w a gg hs hk
  obtain⟨o,r',rfl,ho,jd⟩:=tF l8
  obtain⟨s1,s2,s3,s4⟩:=sv ho
  have hw:=pd hs.env s4 hg
  simp only[wpListIn,hw,if_true]
  obtain⟨func,code,h1,h2,t1,t2,t3,_⟩:=(hT.fn f fn hf).ex
  have gJ:∀ d Hn,wS R1 d Hn→(if eV args then jX d&&Hn.all kU else lV d&&Hn.all l4)=true∧after s e.dst args d Hn=some { s with env:=put s.env e.dst (iB s.H.length d),H:=s.H++Hn }:=fun d Hn hR=>by
   obtain⟨s',fq⟩:=cK.1 (ha d Hn hR)
   obtain⟨k1,rfl⟩:=On fq
   exact⟨k1,fq⟩
  have s1:=xJ s1 hc
  refine Of hs s1 s3 hc t3 (R:=fun d H'=>∃ d0 Hn,wS R1 d0 Hn∧d=iB s.H.length d0∧H'=s.H++Hn) (fun vs gC=>(Y6 hs.eB gC pH fun d Hn hR=>(gJ d Hn hR).1).mono ?_) ?_
  ·rintro e w' ⟨v,c',d,Hn,he,hR,k1,k2,k3⟩
   exact⟨v,c',_,_,he,⟨d,Hn,hR,rfl,rfl⟩,k1,k2,k3⟩
  ·rintro d H' c' w' a' ⟨d0,Hn,hR,rfl,rfl⟩ fq eJ
   rw[← s2]at fq
   exact ih d0 Hn _ hR (gJ d0 Hn hR).2 N A r' jd ro n Q c' w' a' gg fq (hk.mono eJ (by simp))
 | @xC e r s f args fn R1 R hg hc hf hp h t pH ih=>
  intro N A ops l8 ro n Q c w a gg hs hk
  obtain⟨o,r',rfl,ho,jd⟩:=tF l8
  obtain⟨s1,s2,s3,s4⟩:=sv ho
  have hw:=pd hs.env s4 hg
  simp only[wpListIn,hw,if_true]
  obtain⟨func,code,h1,h2,t1,t2,t3,_⟩:=(hT.fn f fn hf).ex
  have s1:=xJ s1 hc
  refine Of hs s1 s3 hc t3 (R:=fun d H'=>wS R1 d H'∧s.H.length≤H'.length) (fun vs gC=>(pH c w vs hs.eB gC).mono ?_) ?_
  ·rintro e w' ⟨v,c',d,H',he,hR,hle,k1,k2,k3⟩
   exact⟨v,c',d,H',he,⟨hR,hle⟩,k1,k2,k3⟩
  ·rintro d H' c' w' a' ⟨hR,hle⟩ fq eJ
   rw[← s2]at fq
   exact ih d H' hR N A r' jd ro n Q c' w' a' gg fq (hk.mono eJ hle)
 | @Cu e r s v args rf env0 Rd Ra Rb R hg hc hv hR hl ha hn hb hm t mc qx pI=>
  intro N A ops l8 ro n Q c w a gg hs hk
  obtain⟨o,r',rfl,ho,jd⟩:=tF l8
  obtain⟨s1,s2,s3,s4⟩:=sv ho
  have hw:=pd hs.env s4 hg
  simp only[wpListIn,hw,if_true]
  obtain⟨M,ps,ac,bc,pv,Dx,fe,Gk,Rf⟩:=(hT.round rf Rd hR).ex
  rw[← Dx]at hl mc fe
  have s1:=s1.resolve_right fun h2=>by
   have:=Fu h2
   unfold yieldOf at hc
   split at hc
   ·rename_i heq;rw[heq]at this;cases this
   ·cases hc
  refine aaz hs s1 s3 hc hv pv (by simpa using hl) (fun p hp=>by simpa using ao.1 fe p hp) (Ra:=outs Ra) (Rb:=outs Rb) ?_ hn ?_ hm ?_
  ·exact fun ro n Q c w a fq ie=>mc M ac Gk ro n Q c w a (fun h=>by cases h) fq ie
  ·intro s1 iV sH lD kY ro n Q c w a fq ie
   have:=qx s1 iV sH kY M bc Rf ro n Q c w a (fun h=>by simp[lD]at h) fq
   simp only[bV,lD]at this
   exact this ie
  ·intro q iL c' w' a' sI mb hle fq eJ
   rw[← s2]at fq
   exact pI q iL sI mb N A r' jd ro n Q c' w' a' gg fq (hk.mono eJ (by simpa using hle))
 | @next e r s x v m since seen kk es R hg fL hx hv hm np h0 h1 S5 nq=>
  intro N A ops l8 ro n Q c w a gg hs hk
  obtain⟨o,r',rfl,ho,jd⟩:=tF l8
  obtain⟨s1,s2,s3,s4⟩:=sv ho
  have hw:=pd hs.env s4 hg
  simp only[wpListIn,hw,if_true]
  rw[fL]at s1
  have s1:=s1.resolve_left fun h2=>YZ h2
  refine aav hs s1 s3 hx hv hm np ?_ ?_
  ·intro ix c' w' a' fq eJ
   rw[← s2]at fq
   exact S5 ix N A r' jd ro n Q c' w' a' gg fq (hk.mono eJ (Nat.le_refl _))
  ·intro i k d hi ur c' w' a' fq eJ
   rw[← s2]at fq
   exact nq i k d hi ur N A r' jd ro n Q c' w' a' gg fq (hk.mono eJ (by simp))
 | @skip s R h=>
  intro N code hc ro n Q c w a gg eB hk
  cases hc
  exact wpIn_skip (hk _ c w a h rfl (Nat.le_refl _) eB (Step.refl _ _ _ _))
 | @xM l s R h ih=>
  intro N code hc ro n Q c w a gg eB hk
  cases hc with
  | ops h=>exact wpIn_region_list (ih N _ _ h ro n Q c w a gg eB hk)
 | @seq a b s R1 R h k hs nq oq=>
  intro N code hc ro n Q c w a gg eB hk
  cases hc with
  | seq h1 h2=>
   refine wpIn_seq (nq N _ h1 ro n _ c w a gg eB fun o c' w' a' hR lD hle nj eJ=>?_)
   cases o with
   | norm s'=>
    have DA:s'.fV=s.fV:=lD
    refine oq s' hR N _ h2 ro n Q c' w' a' (fun h=>gg (by rw[← DA];exact h)) nj ?_
    rw[DA]
    exact hk.mono eJ hle
   | exit id s'=>exact hk _ c' w' a' (hs _ hR rfl) lD hle nj eJ
   | ret s'=>exact hk _ c' w' a' (hs _ hR rfl) lD hle nj eJ
 | @cond c a b s x R hc h ih=>
  intro N code l8 ro n Q c w a gg eB hk
  cases l8 with
  | @cond cx ca cb _ _ _ hx h1 h2=>
   have hr:=gb eB.eB eB.env hx
   rw[hc]at hr
   have he:a.eval cx = .bool x:=by
    generalize a.eval cx=u at hr
    cases hr;rfl
   refine wpIn_cond he ?_
   cases x
   ·exact ih N _ h2 ro n Q c w a gg eB hk
   ·exact ih N _ h1 ro n Q c w a gg eB hk
 | @block id live a s R1 R h k ih=>
  have hlen:∀ s':St,s.H.length≤s'.H.length→s.H.length≤(cut s.H.length live s').H.length:=by
   intro s' h1
   unfold cut
   split
   ·exact h1
   ·dsimp only;rw[EE];simp[gx]
  have LR:∀ s':St,(cut s.H.length live s').fV=s'.fV:=by
   intro s'
   unfold cut
   split<;>rfl
  intro N code hc ro n Q c w a gg eB hk
  cases hc with
  | block h1=>
   refine wpIn_block (ih N _ h1 ro n _ c w a gg eB fun o c' w' a' hR lD hle nj eJ=>?_)
   have ma:=k o hR
   cases o with
   | norm s'=>
    obtain⟨c2,kh,nN,_⟩:=Fz nj hle live
    exact hk (.norm (cut s.H.length live s')) c2 w' a' ma ((LR s').trans lD) (hlen s' hle) kh (eJ.trans nN (Nat.le_refl _))
   | exit sX s'=>
    by_cases Gs:sX=id
    ·subst Gs
     obtain⟨c2,kh,nN,_⟩:=Fz nj hle live
     simp only[kc,if_true]at ma
     have:=hk (.norm (cut s.H.length live s')) c2 w' a' ma ((LR s').trans lD) (hlen s' hle) kh (eJ.trans nN (Nat.le_refl _))
     simp only[Out.ex,Exit.inBlock,if_true]at this ⊢
     exact this
    ·simp only[kc,if_neg Gs]at ma
     have:=hk _ c' w' a' ma lD hle nj eJ
     simp only[Out.ex,Exit.inBlock,if_neg Gs]at this ⊢
     exact this
   | ret s'=>exact hk _ c' w' a' ma lD hle nj eJ
 | @zT s R hR=>
  exact⟨[],s,hR,Nat.le_refl _,rfl,rfl,fun K k0 hK=>⟨[],rfl,rfl,rfl,.nil⟩⟩
 | @zV e r s d δ R1 R hg h t k ih=>
  obtain⟨rs,s',nK,i1,i2,i4,i3⟩:=ih
  refine⟨_,s',k _ _ nK,Nat.le_trans (E8 δ s.H) i1,i2,i4,fun K k0 hK=>?_⟩
  obtain⟨items,e1,e2,e3,q'⟩:=i3 K (k0+1) hK
  obtain⟨a1,a2⟩:=E9 (Ov h) K (Nat.le_trans i1 hK)
  refine⟨⟨k0,e,s.H.length,⟨e7 s.env.get s.H e.op,gT s.H.length δ⟩⟩::items,by simp[e1],by simp[e2],by simp[e3,ct],?_⟩
  have hE:Ef (CC P G) s.env.get (s.H++room (K-s.H.length)) e s.H.length ⟨e7 s.env.get s.H e.op,gT s.H.length δ⟩ d δ:=by
   have:=Ef.op (C:=CC P G) (f:=s.env.get) (H:=s.H++room (K-s.H.length)) (e:=e) (n:=s.H.length) hg (by rw[Ou];exact h) a2
   rwa [C9]at this
  refine .cons hE ?_
  rw[a1]
  have hp:(put s.env e.dst d).get=jL s.env.get e.dst d:=zn _ _ _
  rw[← hp]
  exact q'
 | @zU e r s R1 R hg t k ih=>
  obtain⟨rs,s',nK,i1,i2,i4,i3⟩:=ih
  refine⟨_,s',k _ _ nK,i1,i2,i4,fun K k0 hK=>?_⟩
  obtain⟨items,e1,e2,e3,q'⟩:=i3 K (k0+1) hK
  refine⟨⟨k0,e,0,⟨[],[]⟩⟩::items,by simp[e1],by simp[e2],by simp[e3,ct],.cons (.off hg) ?_⟩
  have hp:(put s.env e.dst (.val undef)).get=jL s.env.get e.dst (.val undef):=zn _ _ _
  rw[← hp]
  exact q'
 | @zP e r s f args fn d R0 R1 R hg hc hf hp h h0 hr t k pH ih=>
  obtain⟨rs,s',nK,i1,i2,i4,i3⟩:=ih
  refine⟨_,s',k _ _ nK,i1,i2,i4,fun K k0 hK=>?_⟩
  obtain⟨items,e1,e2,e3,q'⟩:=i3 K (k0+1) hK
  refine⟨⟨k0,e,0,⟨e7 s.env.get s.H e.op,[]⟩⟩::items,by simp[e1],by simp[e2],by simp[e3,ct],?_⟩
  obtain⟨func,code,h1,h2,t1,t2,t3,_⟩:=(hT.fn f fn hf).ex
  have hE:Ef (CC P G) s.env.get (s.H++room (K-s.H.length)) e 0 ⟨e7 s.env.get s.H e.op,[]⟩ d .no:=by
   have e0:args.map (eC (fun _=>none) (s.H++room (K-s.H.length)) 40)=args.map (eC (fun _=>none) s.H 40):=ak fun d _=>(zx 40 d).2
   have:=Ef.call (C:=CC P G) (f:=s.env.get) (H:=s.H++room (K-s.H.length)) (e:=e) (n:=0) hg hc (by rw[e0];exact⟨t3,pH.one h0⟩) hr
   rwa [C9]at this
  refine .cons hE ?_
  have hp:(put s.env e.dst d).get=jL s.env.get e.dst d:=zn _ _ _
  rw[← hp]
  exact q'
 | @zQ e r s f qW args fn d ob R0 R1 R hg fL ha hf hp h h0 hr t k pH ih=>
  obtain⟨rs,s',nK,i1,i2,i4,i3⟩:=ih
  have hle:s.H.length≤(s.H ++ [ob]).length:=by simp
  refine⟨_,s',k _ _ nK,Nat.le_trans hle i1,i2,i4,fun K k0 hK=>?_⟩
  obtain⟨items,e1,e2,e3,q'⟩:=i3 K (k0+1) hK
  have GY:Safe s.H (.new ob):=trivial
  obtain⟨a1,a2⟩:=E9 (δ:=.new ob) GY K (by have:(s.H ++ [ob]).length≤K:=Nat.le_trans i1 hK;simpa[Dl.app,Al.last]using this)
  refine⟨⟨k0,e,s.H.length,⟨e7 s.env.get s.H e.op,[(s.H.length,none)]⟩⟩::items,by simp[e1],by simp[e2],by simp[e3,ct],?_⟩
  obtain⟨func,code,h1,h2,t1,t2,t3,_⟩:=(hT.fn f fn hf).ex
  have hE:Ef (CC P G) s.env.get (s.H++room (K-s.H.length)) e s.H.length ⟨e7 s.env.get s.H e.op,[(s.H.length,none)]⟩ (iB s.H.length d) (.new ob):=by
   have e0:args.map (eC (fun _=>none) (s.H++room (K-s.H.length)) 40)=args.map (eC (fun _=>none) s.H 40):=ak fun d _=>(zx 40 d).2
   have:=Ef.callN (C:=CC P G) (f:=s.env.get) (H:=s.H++room (K-s.H.length)) (e:=e) (n:=s.H.length) hg fL ha (by rw[e0];exact⟨t3,pH.one h0⟩) hr a2
   rwa [C9]at this
  refine .cons hE ?_
  have E5:iZ s.H.length (.new ob) (s.H++room (K-s.H.length))=(s.H ++ [ob])++room (K-(s.H ++ [ob]).length):=a1
  show Tx (CC P G) (jL s.env.get e.dst (iB s.H.length d)) (iZ s.H.length (.new ob) (s.H++room (K-s.H.length))) items _ _
  rw[E5]
  have hp:(put s.env e.dst (iB s.H.length d)).get=jL s.env.get e.dst (iB s.H.length d):=zn _ _ _
  rw[← hp]
  exact q'
 | @zS e r s f qW args fn d v R0 R1 R hg fL ha hf hp hS hv fy fj h h0 hr t k pH ih=>
  obtain⟨rs,s',nK,i1,i2,i4,i3⟩:=ih
  have hle:s.H.length≤(s.H.set v .dead).length:=by simp
  refine⟨_,s',k _ _ nK,Nat.le_trans hle i1,i2,i4,fun K k0 hK=>?_⟩
  obtain⟨items,e1,e2,e3,q'⟩:=i3 K (k0+1) hK
  have gw:v<s.H.length:=by
   unfold rowsOf at fy
   split at fy
   ·rename_i q;exact(af.1 q).1
   ·cases fy
  have GY:Safe s.H (.obj v .dead):=gw
  obtain⟨a1,a2⟩:=E9 (δ:=.obj v .dead) GY K (by have:(s.H.set v .dead).length≤K:=Nat.le_trans i1 hK;simpa[Dl.app]using this)
  refine⟨⟨k0,e,0,⟨e7 s.env.get s.H e.op,[(v,none)]⟩⟩::items,by simp[e1],by simp[e2],by simp[e3,ct],?_⟩
  obtain⟨func,code,h1,h2,t1,t2,t3,_⟩:=(hT.fn f fn hf).ex
  have hE:Ef (CC P G) s.env.get (s.H++room (K-s.H.length)) e 0 ⟨e7 s.env.get s.H e.op,[(v,none)]⟩ d (.obj v .dead):=by
   have e0:args.map (eC (fun _=>none) (s.H++room (K-s.H.length)) 40)=args.map (eC (fun _=>none) s.H 40):=ak fun d _=>(zx 40 d).2
   have e4:args.map (fD (s.H++room (K-s.H.length)) 40)=args.map (fD s.H 40):=ak fun d _=>(zx 40 d).1
   have:=Ef.tB (C:=CC P G) (f:=s.env.get) (H:=s.H++room (K-s.H.length)) (e:=e) (n:=0) (v:=v) hg fL ha (by rw[e4];exact hS) (by rw[e4];exact hv) (by rw[Ia];exact fy) (by rw[e0];exact⟨t3,pH.one h0⟩) (by rw[e0];exact fj) hr
   rwa [C9]at this
  refine .cons hE ?_
  have E5:iZ 0 (.obj v .dead) (s.H++room (K-s.H.length))=(s.H.set v .dead)++room (K-(s.H.set v .dead).length):=a1
  show Tx (CC P G) (jL s.env.get e.dst d) (iZ 0 (.obj v .dead) (s.H++room (K-s.H.length))) items _ _
  rw[E5]
  have hp:(put s.env e.dst d).get=jL s.env.get e.dst d:=zn _ _ _
  rw[← hp]
  exact q'
 | @eN gM l s R1 R t hp ih=>
  obtain⟨rs,s',nK,i1,i2,i4,i3⟩:=ih
  obtain⟨hp,QV⟩:=hp rs s' nK
  intro N code hc ro n Q c w a gg eB hk
  cases hc with
  | @eN _ _ id A ord re he ho nk=>
   obtain⟨items,e1,e2,e3,tV⟩:=i3 s'.H.length 0 (Nat.le_refl _)
   have hlen:items.length=l.length:=by rw[← e1];simp
   have fj:∀ (ops:List Oper) (l:List eX),lM P G N A ops=some l→ops.length=l.length∧∀ (i:Nat) (o:Oper) (e:eX),ops[i]? = some o→l[i]? = some e→qc P G N A o=some e:=by
    intro ops
    induction ops with
    | nil=>intro l h;cases h;exact⟨rfl,fun i o e h=>by simp at h⟩
    | cons o r Hf=>
     intro l h
     obtain⟨e,l',rfl,h1,h2⟩:=xN h
     obtain⟨q1,q2⟩:=Hf l' h2
     refine⟨by simp[q1],fun i o' e' ho he=>?_⟩
     cases i with
     | zero=>simp at ho he;subst ho;subst he;exact h1
     | succ i=>exact q2 i o' e' (by simpa using ho) (by simpa using he)
   obtain⟨q1,q2⟩:=fj _ _ re
   have hA:A.size=l.length:=by rw[← q1];simp
   have gK:∀ (i:Nat) (it:kb),items[i]? = some it→it.k=i∧l[i]? = some it.e∧rs[i]? = some it.rc:=by
    intro i it hi
    have fe:=(af.1 hi).1
    refine⟨?_,by rw[← e1];simp[hi],by rw[← e2];simp[hi]⟩
    have:(items.map (·.k))[i]? = some it.k:=by simp[hi]
    rw[e3,List.getElem?_range' (by omega)]at this
    simpa using this.symm
   refine wpIn_region_any hM ?_
   have oZ:eP G c s.H { w with drawn:=w.drawn+1 }:=eB.eB.l6 (ig.drew w)
   have yC:Step s.H.length c s.H w c s.H { w with drawn:=w.drawn+1 }:=wP _ (ig.drew w)
   have G0:SX G N c { w with drawn:=w.drawn+1 } s.env.get (s.H++room (s'.H.length-s.H.length)) s.marks a:=
    ⟨NI oZ _,iS.carry (fun _ _ h=>h.mA eB.eB.toHeapOK yC) eB.env,eB.size,eB.marks⟩
   refine JE (C:=CC P G) (fun g args d Hn h=>h) he ho A.size items _ c _ _ _ a (by omega) ?_ G0 tV ?_ ?_ fun c' w' a' fq eJ=>?_
   ·refine⟨by simp,fun j hj=>?_,?_,fun it ia=>?_,fun i hi hl=>?_⟩
    ·refine⟨fun _=>⟨items[j]'(by omega),bz _,(gK j _ (List.getElem?_eq_getElem _)).1⟩,fun _=>by simp[hj]⟩
    ·rw[bj]
     intro i j hi hj mL
     rw[(gK i _ (List.getElem?_eq_getElem hi)).1,(gK j _ (List.getElem?_eq_getElem hj)).1]
     exact mL
    ·obtain⟨i,hi⟩:=aD.1 ia
     have fe:=(af.1 hi).1
     rw[(gK i it hi).1];omega
    ·simp[hi]at hl
   ·intro it ia
    obtain⟨i,hi⟩:=aD.1 ia
    have fe:=(af.1 hi).1
    obtain⟨k1,k2,k3⟩:=gK i it hi
    refine⟨A[i]'(by omega),by rw[k1];simp,q2 i _ _ (by simp) k2⟩
   ·intro p pz q hq yw
    obtain⟨i,hi⟩:=aD.1 pz
    obtain⟨j,hj⟩:=aD.1 hq
    obtain⟨p1,p2,p3⟩:=gK i p hi
    obtain⟨HW,HX,q3⟩:=gK j q hj
    rw[p1,HW]at yw ⊢
    have fe:=(af.1 hj).1
    have:=ao.1 (ao.1 nk j (bG.2 (by omega))) i (bG.2 yw)
    simp only[p2,HX,bW,ah,cE]at this
    rcases this with h|⟨h1,h2⟩
    ·exact .inl h
    ·refine .inr ⟨h1,?_⟩
     rcases h2 with h2|h2
     ·have:=ao.1 hp (i,j) h2
      simp only[p3,q3]at this
      exact this
     ·obtain⟨_,_,_,_,E1⟩:=tV.each p pz
      obtain⟨_,_,_,_,E2⟩:=tV.each q hq
      exact N4 E1 E2 h2
   ·simp only[Nat.sub_self,room,List.replicate_zero,av]at fq eJ
    refine hk _ c' w' a' QV i4 i1 ⟨fq.eB,fq.env,fq.size,by show ka c' s'.marks _;rw[i2];exact fq.marks⟩ ?_
    have h1:=yC.trans (NJ (c:=c) (w:={ w with drawn:=w.drawn+1 }) (H:=s.H) (s'.H.length-s.H.length) s.H.length) (Nat.le_refl _)
    exact h1.trans eJ (by simp)
 | @jN gM l es s R1 R t hp k ih rE=>
  obtain⟨rs,s',nK,i1,i2,i4,i3⟩:=ih
  have hp:=hp rs s' nK
  have rE:=rE rs s' nK
  intro N code hc ro n Q c w a gg eB hk
  cases hc with
  | @jN _ _ _ id A ord re he ho nk sN=>
   obtain⟨items,e1,e2,e3,tV⟩:=i3 s'.H.length 0 (Nat.le_refl _)
   have hlen:items.length=l.length:=by rw[← e1];simp
   obtain⟨o1,o2,F8,c1,c2⟩:=Kc re
   obtain⟨q1,q2⟩:=Kd c1
   obtain⟨q3,_⟩:=Kd c2
   have hA:A.size=l.length+es.length:=by rw[← cv,F8,az,q1,q3]
   have QP:∀ i,i<l.length→A[i]? = o1[i]? := fun i hi=>by
    rw[← bq,F8,ag (by omega)]
   have QQ:∀ i,A[l.length+i]? = o2[i]? := fun i=>by
    rw[← bq,F8,aj (by omega)]
    congr 1;omega
   have gK:∀ (i:Nat) (it:kb),items[i]? = some it→it.k=i∧l[i]? = some it.e∧rs[i]? = some it.rc∧i<l.length:=by
    intro i it hi
    have fe:=(af.1 hi).1
    refine⟨?_,by rw[← e1];simp[hi],by rw[← e2];simp[hi],by omega⟩
    have:(items.map (·.k))[i]? = some it.k:=by simp[hi]
    rw[e3,List.getElem?_range' (by omega)]at this
    simpa using this.symm
   refine wpIn_region_any hM ?_
   have oZ:eP G c s.H { w with drawn:=w.drawn+1 }:=eB.eB.l6 (ig.drew w)
   have yC:Step s.H.length c s.H w c s.H { w with drawn:=w.drawn+1 }:=wP _ (ig.drew w)
   have G0:SX G N c { w with drawn:=w.drawn+1 } s.env.get (s.H++room (s'.H.length-s.H.length)) s.marks a:=
    ⟨NI oZ _,iS.carry (fun _ _ h=>h.mA eB.eB.toHeapOK yC) eB.env,eB.size,eB.marks⟩
   have Dt:∀ q∈(es.zipIdx l.length).map (fun p=>(⟨p.2,p.1,0,⟨[],[]⟩⟩:kb)),l.length≤q.k∧q.k<l.length+es.length:=fun q hq=>by
    obtain⟨p,pz,rfl⟩:=aw.1 hq
    obtain⟨x,y⟩:=p
    have:=List.mem_zipIdx pz
    exact⟨this.1,by show y<_;omega⟩
   have vW:((es.zipIdx l.length).map (fun p=>(⟨p.2,p.1,0,⟨[],[]⟩⟩:kb))).length=es.length:=by simp
   rw[show A.size=items.length+((es.zipIdx l.length).map (fun p=>(⟨p.2,p.1,0,⟨[],[]⟩⟩:kb))).length by rw[vW];omega]
   refine JF (C:=CC P G) (fun g args d Hn h=>h) he ho (lasts:=(es.zipIdx l.length).map fun p=>⟨p.2,p.1,0,⟨[],[]⟩⟩) (ops:=o2) (fun q hq k hk=>sN q.k (Dt q hq).1 (by simp;exact(Dt q hq).2) k hk) ?_ items.length items _ c _ _ _ a rfl ?_ G0 tV ?_ ?_ fun c' w' a' fq eJ=>?_
   ·refine bI fun i=>?_
    simp only[cD,ar,List.getElem?_zipIdx]
    cases h:es[i]? with
    | none=>
     have:es.length≤i:=by simpa using h
     simp[aK (l:=o2) (i:=i) (by omega)]
    | some e=>
     have:=(af.1 h).1
     simp[QQ,List.getElem?_eq_getElem (l:=o2) (i:=i) (by omega)]
   ·refine⟨by simp;omega,fun j hj=>?_,?_,fun it ia=>?_,fun i hi hl=>?_⟩
    ·refine⟨fun _=>?_,fun _=>by rw[vW];simp[show j<items.length+es.length by omega]⟩
     by_cases l9:j<l.length
     ·exact⟨items[j]'(by omega),aS _ (bz _),(gK j _ (List.getElem?_eq_getElem _)).1⟩
     ·refine⟨⟨j,es[j-l.length]'(by omega),0,⟨[],[]⟩⟩,br _ (aw.2 ⟨(es[j-l.length]'(by omega),j),?_,rfl⟩),rfl⟩
      rw[List.mem_zipIdx_iff_le_and_getElem?_sub]
      exact⟨by omega,by simp⟩
    ·refine bF.2 ⟨?_,?_,fun p pz q hq=>?_⟩
     ·rw[bj]
      intro i j hi hj mL
      rw[(gK i _ (List.getElem?_eq_getElem hi)).1,(gK j _ (List.getElem?_eq_getElem hj)).1]
      exact mL
     ·rw[bj]
      intro i j hi hj mL
      simp
      omega
     ·obtain⟨i,hi⟩:=aD.1 pz
      have h1:=gK i p hi
      have h2:=Dt q hq
      omega
    ·rcases List.mem_append.1 ia with ia|ia
     ·obtain⟨i,hi⟩:=aD.1 ia
      have:=gK i it hi
      omega
     ·have:=Dt it ia;omega
    ·rw[vW]at hl
     have:i<items.length+es.length:=by omega
     simp[this]at hl
   ·intro it ia
    obtain⟨i,hi⟩:=aD.1 ia
    obtain⟨k1,k2,k3,k4⟩:=gK i it hi
    have h1:o1[i]? = some (o1[i]'(by omega)):=List.getElem?_eq_getElem _
    exact⟨o1[i]'(by omega),by rw[k1,QP i k4,h1],q2 i _ _ h1 k2⟩
   ·intro p pz q hq yw
    obtain⟨i,hi⟩:=aD.1 pz
    obtain⟨j,hj⟩:=aD.1 hq
    obtain⟨p1,p2,p3,p4⟩:=gK i p hi
    obtain⟨HW,HX,q3,q4⟩:=gK j q hj
    rw[p1,HW]at yw ⊢
    have:=ao.1 (ao.1 nk j (bG.2 (by simp;omega))) i (bG.2 yw)
    simp only[ag p4,ag q4,p2,HX,bW,ah,cE]at this
    rcases this with h|⟨h1,h2⟩
    ·exact .inl h
    ·refine .inr ⟨h1,?_⟩
     rcases h2 with h2|h2
     ·have:=ao.1 hp (i,j) h2
      simp only[p3,q3]at this
      exact this
     ·obtain⟨_,_,_,_,E1⟩:=tV.each p pz
      obtain⟨_,_,_,_,E2⟩:=tV.each q hq
      exact N4 E1 E2 h2
   ·simp only[Nat.sub_self,room,List.replicate_zero,av]at fq eJ
    have h1:=yC.trans (NJ (c:=c) (w:={ w with drawn:=w.drawn+1 }) (H:=s.H) (s'.H.length-s.H.length) s.H.length) (Nat.le_refl _)
    have h2:=h1.trans eJ (by simp)
    exact rE N A o2 c2 ro n Q c' w' a' (by rw[i4];exact gg) ⟨fq.eB,fq.env,fq.size,by show ka c' s'.marks _;rw[i2];exact fq.marks⟩ (by rw[i4];exact hk.mono h2 i1)
 | @loop live a s R h ih=>
  intro N code hc ro n Q c w a gg eB hk
  cases hc with
  | loop h1=>exact aau (ih (Nat.le_refl _) N _ h1 ro n Q c w a gg ⟨eB.eB,vA eB.env live,eB.size,eB.marks⟩ hk)
 | @sY n0 live a s R1 R h k hs nq oq=>
  intro hn N code hc ro n Q c w a gg eB hk
  refine TX (nq N _ hc ro n _ c w a gg eB fun o c' w' a' hR lD hle nj eJ=>?_)
  cases o with
  | norm s'=>
   have Lp:n0≤s'.H.length:=Nat.le_trans hn hle
   have Rj:n0≤(cut n0 live s').H.length:=by
    unfold cut
    split
    ·exact Lp
    ·dsimp only;rw[EE];simp[gx]
   have yy:(cut n0 live s').fV=s.fV:=by
    have DA:s'.fV=s.fV:=lD
    unfold cut
    split<;>exact DA
   obtain⟨c2,kh,nN,_⟩:=Fz nj Lp live
   refine oq s' hR Rj N _ hc ro n Q c2 w' a' (fun h=>gg (by rw[← yy];exact h)) kh ?_
   rw[yy]
   exact hk.mono ((eJ.weaken hn).trans nN (Nat.le_refl _)) (Nat.le_refl _)
  | exit id s'=>exact hk _ c' w' a' (hs _ hR rfl) lD (Nat.le_trans hn hle) nj (eJ.weaken hn)
  | ret s'=>exact hk _ c' w' a' (hs _ hR rfl) lD (Nat.le_trans hn hle) nj (eJ.weaken hn)
 | @jY rf live x s f first cap fn R1 R lD hx hf hp h k ih=>
  intro N code hc ro n Q c w a gg eB hk
  have Sh:=gg lD
  subst Sh
  cases hc with
  | jY SE pv=>
   obtain⟨func,code,h1,h2,t1,t2,t3,_⟩:=(hT.fn f fn hf).ex
   exact aax eB SE hx t3 pv (live:=live) (R1:=wS R1) (R:=outs R) ih k hk
 | @exit id s R h=>
  intro N code hc ro n Q c w a gg eB hk
  cases hc
  exact wpIn_exit (hk _ c w a h rfl (Nat.le_refl _) eB (Step.refl _ _ _ _))
 | @ret s R h=>
  intro N code hc ro n Q c w a gg eB hk
  cases hc
  exact wpIn_ret (hk _ c w a h rfl (Nat.le_refl _) eB (Step.refl _ _ _ _))
 | @call f args H fn R1 R own hf hl h k ih=>
  intro c w vs eB gC
  obtain⟨func,code,hs,fq,t1,t2,t3,t7,t4,t5,t6⟩:=(hT.fn f fn hf).ex
  have yy:=Za hT.rt t1 t2 t7
  rw[t5]at yy
  refine callsIn_wide (n:=0) |>.1 (callsIn_of_wp_marks (F:=FW none) t1 t2 trivial (ih fn.ntmps code (Fe yy t4) none 0 _ c w _ (fun _=>rfl) ⟨eB,PL gC _,?_,.nil⟩ ?_))
  ·simp;omega
  ·intro o c' w' a' hR lD hle kK eJ
   obtain⟨d,H',jR,QW⟩:=k o hR
   have main:∀ s:St,o.st=s→∀ H1,kill s.marks s.H=some H1→∀ d0,AL.results fn { s with H:=H1 }=some d0→leave own H.length H1 d0=(d,H') →
     LeavesInM (FW none) 0 P func a'.tmps (fun e w'=>∃ v c' d H',e = .returned v∧wS R d H'∧H.length≤H'.length∧eP G c' H' w'∧ew c' w' v d∧Step H.length c H w c' H' w') a'.defers .returning w':=by
    rintro s rfl H1 RG d0 v8 RK
    refine TM kK.marks kK.eB RG fun w1 q1 q2 q3=>?_
    have sS:iT G fn.ntmps c' w1 { o.st with H:=H1,marks:=[] } { a' with defers:=[] }:=⟨q1,fun j=>(kK.env j).mA kK.eB.toHeapOK q2,kK.size,.nil⟩
    obtain⟨v,hv,G8⟩:=Zl sS t6 (d:=d0) (by rw[← v8];exact Zk { o.st with H:=H1 } [])
    have RJ:H.length≤H1.length:=by rw[q3];exact hle
    obtain⟨c2,k1,k2,k3,k4⟩:=TL q1 RJ own G8
    rw[RK]at k1 k2 k3 k4
    exact⟨v,hv,v,c2,d,H',rfl,QW,k4,k1,k2,(eJ.trans q2 hle).trans k3 (Nat.le_refl _)⟩
   have Lf:∀ s:St,finish fn own H.length (.norm s)=some (d,H')→∃ H1,kill s.marks s.H=some H1∧∃ d0,AL.results fn { s with H:=H1 }=some d0∧leave own H.length H1 d0=(d,H'):=by
    intro s hf
    simp only[finish]at hf
    split at hf
    ·rename_i H1 ma
     split at hf
     ·rename_i d0 iM
      exact⟨H1,ma,d0,iM,cJ hf⟩
     ·cases hf
    ·cases hf
   cases o with
   | norm s=>
    obtain⟨H1,q1,d0,q2,q3⟩:=Lf s jR
    exact main s rfl H1 q1 d0 q2 q3
   | ret s=>
    obtain⟨H1,q1,d0,q2,q3⟩:=Lf s jR
    exact main s rfl H1 q1 d0 q2 q3
   | exit id s=>cases jR
end
end Go.AL
namespace Go.AL
open Go
def CY:Value→Value→Bool
 | .int k a,.int k' b=>decide (k=k')&&decide (a=b)
 | .bool a,.bool b=>a == b
 | .string a,.string b=>decide (a.data.toList=b.data.toList)
 | .nilFunc,.nilFunc=>true
 | .tuple a,.tuple b=>a.toList.isEmpty&&b.toList.isEmpty
 | _,_=>false
mutual
def lO:D→D→Bool
 | .any,.any=>true
 | .val a,.val b=>CY a b
 | .agg a,.agg b=>nZ a b
 | .tup a,.tup b=>nZ a b
 | .sl n a,.sl m b=>decide (n=m)&&vB a b
 | .U,.U=>true
 | .eu a b c d e,.eu a' b' c' d' e'=>decide (a=a')&&decide (b=b')&&decide (c=c')&&decide (d=d')&&decide (e=e')
 | .ptr a b c,.ptr a' b' c'=>decide (a=a')&&decide (b=b')&&decide (c=c')
 | .eG a,.eG b=>nZ a b
 | .fC a,.fC b=>decide (a=b)
 | .gy a,.gy b=>decide (a=b)
 | .fn (.func f) a b,.fn (.func f') a' b'=>decide (f=f')&&nZ a a'&&nZ b b'
 | _,_=>false
def nZ:List D→List D→Bool
 | [],[]=>true
 | a::l,b::m=>lO a b&&nZ l m
 | _,_=>false
def vB:List (List D)→List (List D)→Bool
 | [],[]=>true
 | a::l,b::m=>nZ a b&&vB l m
 | _,_=>false
end
def tI:Env→Env→Bool
 | [],[]=>true
 | (i,a)::l,(j,b)::m=>decide (i=j)&&lO a b&&tI l m
 | _,_=>false
def vC:List (Value×D)→List (Value×D)→Bool
 | [],[]=>true
 | (i,a)::l,(j,b)::m=>CY i j&&lO a b&&vC l m
 | _,_=>false
def FG:Ob→Ob→Bool
 | .row t g a,.row t' g' b=>decide (t=t')&&decide (g=g')&&nZ a b
 | .map k a,.map k' b=>decide (k=k')&&vC a b
 | .fE r e s,.fE r' e' s'=>decide (r=r')&&tI e e'&&decide (s=s')
 | .nR a p,.nR b q=>decide (a.data.toList=b.data.toList)&&decide (p=q)
 | .jK m s l,.jK m' s' l'=>lO m m'&&decide (s=s')&&decide (l=l')
 | .jA,.jA=>true
 | .dead,.dead=>true
 | .jn,.jn=>true
 | _,_=>false
def tJ:et→et→Bool
 | [],[]=>true
 | a::l,b::m=>FG a b&&tJ l m
 | _,_=>false
def xT(s t:St):Bool:=tI s.env t.env&&tJ s.H t.H&&decide (s.marks=t.marks)&&(s.fV == t.fV)
def FH:Out→Out→Bool
 | .norm s,.norm t=>xT s t
 | .exit i s,.exit j t=>decide (i=j)&&xT s t
 | .ret s,.ret t=>xT s t
 | _,_=>false
def FJ(a b:D×et):Bool:=lO a.1 b.1&&tJ a.2 b.2
def once{α:Type}(eq:α→α→Bool):List α→List α
 | []=>[]
 | [a]=>[a]
 | a::l=>let m:=once eq l;if m.any (eq a)then m else a::m
def nD{α β:Type}:List α→(α→Option (List β))→Option (List β)
 | [],_=>some []
 | [a],f=>f a
 | a::l,f=>match f a,nD l f with
  | some x,some y=>some (x++y)
  | _,_=>none
abbrev rQ:=FuncId→List D→et→Option (List (D×et))
abbrev u7:=IR→St→Option (List Out)
def Nu(s:St)(args:List D):List Nat:=dedup (args.map (fD s.H 40)).flatten
def Et(cl:rQ)(e:eX)(f:FuncId)(s:St):Option (List St):=
 match iw s.env.get e.op with
 | none=>none
 | some (f',args)=>if f'=f then(match cl f (args.map (eC (fun _=>none) s.H 40)) []with
  | some l=>nD l fun p=>match after s e.dst args p.1 p.2 with
   | some s'=>some [s']
   | none=>none
  | none=>none)else none
def Ic(T:fH)(cl:rQ)(e:eX)(s:St):Option (List St):=
 match iw s.env.get e.op with
 | none=>none
 | some (f,args)=>match T.fn f with
  | none=>none
  | some fn=>
   match fn.full with
   | true=>match cl f args s.H with
    | some l=>some (l.map fun p=>{ s with env:=put s.env e.dst p.1,H:=p.2 })
    | none=>none
   | false=>if fn.fz&&s.marks.isEmpty && !eV args then Et cl e f (jk (Nu s args) s)else Et cl e f s
def Ih(T:fH)(rd:u7)(e:eX)(s:St)(v:Nat)(args:List D):Option (List St):=
 match s.H[v]? with
 | some (.fE rf env0 .ready)=>match T.round rf with
  | some Rd=>if args.length=Rd.params.length then
    match rd Rd.a { env:=oJ Rd.params args env0,H:=s.H,fV:=true }with
    | some la=>match nD la fun o=>match o with
      | .norm s1=>match s1.H[v]? with
       | some (.fE Ny iV .ready)=>if Ny=rf then rd Rd.b { s1 with H:=s1.H.set v (.fE rf iV .busy) }else none
       | _=>none
      | _=>none with
     | some lb=>nD lb fun o=>match o.st.H[v]? with
      | some (.fE Nz iL .busy)=>if Nz=rf then some [{ s with env:=put s.env e.dst (.b !o.stop),H:=o.st.H.set v (.fE rf iL o.tc) }]else none
      | _=>none
     | none=>none
    | none=>none
   else none
  | none=>none
 | _=>none
def Ig(e:eX)(s:St)(x:X):Option (List St):=
 match ev s.env.get x with
 | .ptr v 0 0=>match s.H[v]? with
  | some (.jK (.fC m) since seen)=>match s.H[m]? with
   | some (.map _ es)=>if es.length=since then
     let left:=(List.range es.length).filter fun i => !seen.contains i
     if left.isEmpty then some [{ s with env:=put s.env e.dst (.tup [.b false]) }]else
      some (left.filterMap fun i=>match es[i]? with
       | some (k,d)=>some { s with env:=put s.env e.dst (.tup [.b true,.val k,d]),H:=s.H.set v (.jK (.fC m) since (seen ++ [i])) }
       | none=>none)
    else none
   | _=>none
  | _=>none
 | _=>none
def qG(T:fH)(cl:rQ)(rd:u7):List eX→St→Option (List St)
 | [],s=>some [s]
 | e::r,s=>match guardOf s.env.get e.guard with
  | none=>none
  | some false=>qG T cl rd r { s with env:=put s.env e.dst (.val undef) }
  | some true=>match eZ s.env.get s.H s.H.length e.op with
   | some (d,δ)=>qG T cl rd r { s with env:=put s.env e.dst d,H:=δ.app s.H (Al.last s.H) }
   | none=>match jZ s.env.get s.H s.H.length e.op with
    | some (d,δ)=>qG T cl rd r { s with env:=put s.env e.dst d,H:=δ.app s.H (Al.last s.H) }
    | none=>match e.op with
     | .nextM x=>match Ig e s x with
      | some l=>nD l fun s'=>qG T cl rd r s'
      | none=>none
     | _=>match yieldOf s.env.get e.op with
      | some (v,args)=>match Ih T rd e s v args with
       | some l=>nD l fun s'=>qG T cl rd r s'
       | none=>none
      | none=>match iw s.env.get e.op with
       | none=>none
       | some _=>match Ic T cl e s with
        | some l=>nD l fun s'=>qG T cl rd r s'
        | none=>none
def S9:fY→Bool
 | .callN _ _=>true
 | _=>false
def rM(T:fH)(cl:rQ)(st:Bool):List eX→St→Option (List Rc×St)
 | [],s=>some ([],s)
 | e::r,s=>match guardOf s.env.get e.guard with
  | none=>none
  | some false=>match rM T cl st r { s with env:=put s.env e.dst (.val undef) }with
   | some (rs,s')=>some (⟨[],[]⟩::rs,s')
   | none=>none
  | some true=>match eZ s.env.get s.H s.H.length e.op with
   | some (d,δ)=>match rM T cl st r { s with env:=put s.env e.dst d,H:=δ.app s.H (Al.last s.H) }with
    | some (rs,s')=>some (⟨e7 s.env.get s.H e.op,gT s.H.length δ⟩::rs,s')
    | none=>none
   | none=>match iw s.env.get e.op with
    | none=>none
    | some (f,args)=>match T.fn f with
     | none=>none
     | some fn=>if fn.full||(st&&fn.fz && !eV args && !S9 e.op)then none else match cl f (args.map (eC (fun _=>none) s.H 40)) []with
      | some [(d,[])]=>if (if eV args then closed d else flat d)then(match rM T cl st r { s with env:=put s.env e.dst d }with
       | some (rs,s')=>some (⟨e7 s.env.get s.H e.op,[]⟩::rs,s')
       | none=>none)else(match e.op with
       | .callN _ _=>match (args.map (fD s.H 40)).flatten with
        | v::l=>if (l.all fun u=>decide (u=v))&&(rowsOf s.H v).isSome&&eV (args.map (eC (fun _=>none) s.H 40))&&closed d then(match rM T cl st r { s with env:=put s.env e.dst d,H:=s.H.set v .dead }with
         | some (rs,s')=>some (⟨e7 s.env.get s.H e.op,[(v,none)]⟩::rs,s')
         | none=>none)else none
        | []=>none
       | _=>none)
      | some [(d,[ob])]=>match e.op with
       | .callN _ _=>if (if eV args then jX d&&kU ob else lV d&&l4 ob)then(match rM T cl st r { s with env:=put s.env e.dst (iB s.H.length d),H:=s.H ++ [ob] }with
        | some (rs,s')=>some (⟨e7 s.env.get s.H e.op,[(s.H.length,none)]⟩::rs,s')
        | none=>none)else none
       | _=>none
      | _=>none
def mR(T:fH)(cl:rQ)(lp:Nat→List Nat→IR→St→Option (List Out))(rd:u7):IR→St→Option (List Out)
 | .skip,s=>some [.norm s]
 | .ops l,s=>match qG T cl rd l s with
  | some l=>some (l.map .norm)
  | none=>none
 | .eN gM l,s=>match rM T cl true l s with
  | some (rs,s')=>if pL gM rs then some [.norm s']else none
  | none=>if s.marks.isEmpty then(match rM T cl false l (jk (List.range s.H.length) s)with
   | some (rs,s')=>if pL gM rs then some [.norm s']else none
   | none=>none)else none
 | .jN ..,_=>none
 | .seq a b,s=>match mR T cl lp rd a s with
  | some l=>nD l fun o=>match o with
   | .norm s'=>mR T cl lp rd b s'
   | o=>some [o]
  | none=>none
 | .cond c a b,s=>match ev s.env.get c with
  | .val (.bool true)=>mR T cl lp rd a s
  | .val (.bool false)=>mR T cl lp rd b s
  | _=>none
 | .block id live a,s=>match mR T cl lp rd a s with
  | some l=>some (once FH (l.map (kc id s.H.length live)))
  | none=>none
 | .loop live a,s=>lp s.H.length live a { s with env:=forget live s.env }
 | .jY rf live x,s=>if s.fV then none else match ev s.env.get x with
  | .fn (.func f) first cap=>match T.fn f with
   | some fn=>if fn.full then
     match cl f (first ++ [.gy (s.H.length+1)]++cap) (s.H ++ [.jA,.fE rf (forget live s.env) .ready])with
     | some l=>nD l fun p=>match p.2[s.H.length+1]? with
      | some (.fE Nx _ st)=>if Nx=rf then(match uQ { s with H:=p.2.set (s.H.length+1) .dead,marks:=s.H.length::s.marks } st with
       | some o=>some [o]
       | none=>none)else none
      | _=>none
     | none=>none
    else none
   | none=>none
  | _=>none
 | .exit id,s=>some [.exit id s]
 | .ret,s=>some [.ret s]
 | .bad,_=>none
 | .fz _ _,_=>none
 | .po _ _ _,_=>none
abbrev pX:=List (FuncId×List D×List (D×et))
def zr:pX→FuncId→List D→Option (List (D×et))
 | [],_,_=>none
 | (g,qW,l)::M,f,args=>match Nat.beq g f with
  | true=>match nZ qW args with
   | true=>some l
   | false=>zr M f args
  | false=>zr M f args
def known(M:pX)(f:FuncId)(args:List D):et→Option (List (D×et))
 | []=>zr M f args
 | _=>none
mutual
def uV(T:fH)(M:pX):Nat→Nat→List Nat→IR→St→Option (List Out)
 | 0,_,_,_,_=>none
 | k+1,n,live,a,s=>match mR T (run T M k) (uV T M k) (wI T M k) a s with
  | some l=>nD l fun o=>match o with
   | .norm s'=>uV T M k n live a (cut n live s')
   | o=>some [o]
  | none=>none
def wI(T:fH)(M:pX):Nat→u7
 | 0,_,_=>none
 | k+1,c,s=>mR T (run T M k) (uV T M k) (wI T M k) c s
def run(T:fH)(M:pX):Nat→rQ
 | 0,_,_,_=>none
 | k+1,f,args,H=>match known M f args H with
  | some l=>some l
  | none=>match T.fn f with
  | none=>none
  | some fn=>if args.length≤fn.ntmps then(match mR T (run T M k) (uV T M k) (wI T M k) fn.body { env:=oC args,H:=H }with
   | some l=>match nD l fun o=>match finish fn fn.own H.length o with
     | some p=>some [p]
     | none=>none with
    | some ps=>some (once FJ ps)
    | none=>none
   | none=>none)else none
end
end Go.AL
namespace Go.AL
open Go
theorem Kv{a b:Value}(h:CY a b=true):a=b:=by
 unfold CY at h
 split at h
 ·simp only[ah,decide_eq_true_eq]at h;rw[h.1,h.2]
 ·simp only[beq_iff_eq]at h;rw[h]
 ·rename_i a b
  simp only[decide_eq_true_eq]at h
  have:a=b:=by
   cases a;cases b
   congr 1
   exact dC h
  rw[this]
 ·rfl
 ·simp only[ah,cr]at h
  rw[show _ = #[]from dC h.1,show _ = #[]from dC h.2]
 ·cases h
mutual
theorem xS:∀ {a b:D},lO a b=true→a=b
 | .any,b,h=>by cases b<;>simp[lO]at h ⊢
 | .val a,b,h=>by
  cases b<;>simp[lO]at h ⊢
  exact Kv h
 | .agg a,b,h=>by
  cases b<;>simp[lO]at h ⊢
  exact q7 h
 | .tup a,b,h=>by
  cases b<;>simp[lO]at h ⊢
  exact q7 h
 | .sl n a,b,h=>by
  cases b<;>simp[lO]at h ⊢
  exact⟨h.1,Ks h.2⟩
 | .U,b,h=>by cases b<;>simp[lO]at h ⊢
 | .eu a1 a2 a3 a4 a5,b,h=>by
  cases b<;>simp[lO]at h ⊢
  simp[h]
 | .ptr a1 a2 a3,b,h=>by
  cases b<;>simp[lO]at h ⊢
  simp[h]
 | .eG a,b,h=>by
  cases b<;>simp[lO]at h ⊢
  exact q7 h
 | .fC a,b,h=>by cases b<;>simp[lO]at h ⊢;exact h
 | .gy a,b,h=>by cases b<;>simp[lO]at h ⊢;exact h
 | .fn f a a',b,h=>by
  cases f<;>cases b<;>first|(simp[lO]at h;done)|skip
  rename_i f g b b'
  cases g<;>simp[lO]at h ⊢
  exact⟨h.1.1,q7 h.1.2,q7 h.2⟩
theorem q7:∀ {a b:List D},nZ a b=true→a=b
 | [],[],_=>rfl
 | a::l,b::m,h=>by
  simp only[nZ,ah]at h
  rw[xS h.1,q7 h.2]
 | [],_::_,h=>by simp[nZ]at h
 | _::_,[],h=>by simp[nZ]at h
theorem Ks:∀ {a b:List (List D)},vB a b=true→a=b
 | [],[],_=>rfl
 | a::l,b::m,h=>by
  simp only[vB,ah]at h
  rw[q7 h.1,Ks h.2]
 | [],_::_,h=>by simp[vB]at h
 | _::_,[],h=>by simp[vB]at h
end
theorem FE:∀ {a b:Env},tI a b=true→a=b
 | [],[],_=>rfl
 | (i,a)::l,(j,b)::m,h=>by
  simp only[tI,ah,decide_eq_true_eq]at h
  rw[h.1.1,xS h.1.2,FE h.2]
 | [],_::_,h=>by simp[tI]at h
 | _::_,[],h=>by simp[tI]at h
theorem Kt:∀ {a b:List (Value×D)},vC a b=true→a=b
 | [],[],_=>rfl
 | (i,a)::l,(j,b)::m,h=>by
  simp only[vC,ah]at h
  rw[Kv h.1.1,xS h.1.2,Kt h.2]
 | [],_::_,h=>by simp[vC]at h
 | _::_,[],h=>by simp[vC]at h
theorem PM{a b:Ob}(h:FG a b=true):a=b:=by
 unfold FG at h
 split at h
 ·simp only[ah,decide_eq_true_eq]at h;rw[h.1.1,h.1.2,q7 h.2]
 ·simp only[ah,decide_eq_true_eq]at h;rw[h.1,Kt h.2]
 ·simp only[ah,decide_eq_true_eq]at h;rw[h.1.1,FE h.1.2,h.2]
 ·rename_i a p b q
  simp only[ah,decide_eq_true_eq]at h
  have:a=b:=by
   cases a;cases b
   congr 1
   exact dC h.1
  rw[this,h.2]
 ·simp only[ah,decide_eq_true_eq]at h;rw[xS h.1.1,h.1.2,h.2]
 ·rfl
 ·rfl
 ·rfl
 ·cases h
theorem FF:∀ {a b:et},tJ a b=true→a=b
 | [],[],_=>rfl
 | a::l,b::m,h=>by
  simp only[tJ,ah]at h
  rw[PM h.1,FF h.2]
 | [],_::_,h=>by simp[tJ]at h
 | _::_,[],h=>by simp[tJ]at h
theorem FK{a b:St}(h:xT a b=true):a=b:=by
 obtain⟨e,H,m,r⟩:=a
 obtain⟨e',H',m',r'⟩:=b
 simp only[xT,ah,decide_eq_true_eq,beq_iff_eq]at h
 obtain⟨⟨⟨h1,h2⟩,h3⟩,h4⟩:=h
 rw[FE h1,FF h2,h3,h4]
theorem PN{a b:Out}(h:FH a b=true):a=b:=by
 unfold FH at h
 split at h
 ·rw[FK h]
 ·simp only[ah,decide_eq_true_eq]at h;rw[h.1,FK h.2]
 ·rw[FK h]
 ·cases h
theorem PQ{a b:D×et}(h:FJ a b=true):a=b:=by
 simp only[FJ,ah]at h
 exact Prod.ext (xS h.1) (FF h.2)
theorem Eb{α:Type}{eq:α→α→Bool}(h:∀ a b,eq a b=true→a=b):∀ {l:List α} {a:α},a∈l→a∈once eq l
 | [a],b,hb=>hb
 | a::b::l,c,hc=>by
  rw[once]
  ·split
   ·rename_i Q2
    rcases ax.1 hc with rfl|hc
    ·obtain⟨d,hd,Gp⟩:=List.any_eq_true.1 Q2
     rw[h _ _ Gp];exact hd
    ·exact Eb h hc
   ·rcases ax.1 hc with rfl|hc
    ·exact cL
    ·exact aO _ (Eb h hc)
  ·intro e;cases e
theorem qV{α β:Type}{f:α→Option (List β)}:∀ {l:List α} {r:List β},nD l f=some r→∀ a∈l,∃ y,f a=some y∧∀ b∈y,b∈r
 | [],r,_,a,ha=>by simp at ha
 | [a],r,h,b,hb=>by
  simp only[List.mem_singleton]at hb
  subst hb
  exact⟨r,h,fun _ h=>h⟩
 | a::b::l,r,h,c,hc=>by
  rw[nD]at h
  ·split at h
   ·rename_i x y hx hy
    cases h
    rcases ax.1 hc with rfl|hc
    ·exact⟨x,hx,fun _ h=>aS _ h⟩
    ·obtain⟨z,hz,SU⟩:=qV hy c hc
     exact⟨z,hz,fun d hd=>br _ (SU d hd)⟩
   ·cases h
  ·intro e;cases e
section
variable{T:fH}{cl:rQ}{rd:u7}
def pW(l:List Out):lJ→Prop:=fun r=>∃ o∈l,r = .out o
def xh(l:List St):lJ→Prop:=fun r=>∃ s∈l,r = .out (.norm s)
def nU(l:List (D×et)):lJ→Prop:=fun r=>∃ p∈l,r = .val p.1 p.2
def mV(T:fH)(cl:rQ):Prop:=∀ f args H l,cl f args H=some l→Ev T (.call f args H) (nU l)
def Cl(T:fH)(rd:u7):Prop:=∀ c s l,rd c s=some l→Ev T (.code c s) (pW l)
theorem pW.out{l:List Out}{o:Out}(h:pW l (.out o)):o∈l:=by
 obtain⟨o',h1,h2⟩:=h
 cases h2;exact h1
theorem nU.val{l:List (D×et)}{d:D}{H:et}(h:nU l (.val d H)):(d,H)∈l:=by
 obtain⟨o',h1,h2⟩:=h
 cases h2;exact h1
theorem xh.sub{a b:List St}(h:∀ s∈a,s∈b){r:lJ}(hr:xh a r):xh b r:=by
 obtain⟨s,h1,h2⟩:=hr
 exact⟨s,h s h1,h2⟩
theorem pW.sub{a b:List Out}(h:∀ s∈a,s∈b){r:lJ}(hr:pW a r):pW b r:=by
 obtain⟨s,h1,h2⟩:=hr
 exact⟨s,h s h1,h2⟩
theorem Qu{S:List Nat}{s:St}{g:Option (Nat×Bool)}{b:Bool}(h:guardOf s.env.get g=some b):guardOf (jk S s).env.get g=some b:=by
 cases g with
 | none=>exact h
 | some p=>
  simp only[guardOf,jk]at h ⊢
  have e:Env.get (s.env.map fun p=>(p.1,eC (fW (jC s.H S)) s.H 40 p.2)) p.1=eC (fW (jC s.H S)) s.H 40 (s.env.get p.1):=by
   generalize s.env=env
   induction env with
   | nil=>rfl
   | cons q r ih=>
    obtain⟨j,d⟩:=q
    simp only[List.map_cons,Env.qj]
    split
    ·rfl
    ·exact ih
  rw[e]
  split at h
  ·rename_i x hx
   rw[hx]
   have:eC (fW (jC s.H S)) s.H 40 (.val (.bool x)) = .val (.bool x):=by unfold eC;rfl
   rw[this]
   exact h
  ·rename_i vs hx
   rw[hx]
   have:eC (fW (jC s.H S)) s.H 40 (.val (.tuple vs)) = .val (.tuple vs):=by unfold eC;rfl
   rw[this]
   exact h
  ·cases h
theorem NN(fj:mV T cl){e:eX}{r:List eX}{f:FuncId}{fn:eA}{s:St}{l:List St}{R:lJ→Prop}(hg:guardOf s.env.get e.guard=some true)(hf:T.fn f=some fn)(hp:fn.full=false)
  (h:Et cl e f s=some l) (k:∀ s'∈l,Ev T (.ops r s') R):Ev T (.ops (e::r) s) R:=by
 unfold Et at h
 split at h
 ·cases h
 ·rename_i f' args hc
  split at h
  ·rename_i e1
   subst e1
   split at h
   ·rename_i l0 gR
    have hm:=qV h
    refine .xD hg hc hf hp (fj _ _ _ _ gR) (fun d Hn hd=>?_) fun d Hn s' hd fq=>?_
    ·obtain⟨y,hy,_⟩:=hm _ hd.val
     dsimp only at hy
     split at hy
     ·rename_i q;rw[q];rfl
     ·cases hy
    ·obtain⟨y,hy,iQ⟩:=hm _ hd.val
     dsimp only at hy
     rw[fq]at hy
     cases hy
     exact k s' (iQ s' (by simp))
   ·cases h
  ·cases h
theorem Zw(fj:mV T cl){e:eX}{r:List eX}{s:St}{l:List St}{R:lJ→Prop}(hg:guardOf s.env.get e.guard=some true)
  (h:Ic T cl e s=some l) (k:∀ s'∈l,Ev T (.ops r s') R):Ev T (.ops (e::r) s) R:=by
 unfold Ic at h
 split at h
 ·cases h
 ·rename_i f args hc
  split at h
  ·cases h
  ·rename_i fn hf
   split at h
   ·rename_i rj
    split at h
    ·rename_i l0 gR
     cases h
     refine .xC hg hc hf rj (fj _ _ _ _ gR) fun d H' hd=>k _ ?_
     exact aw.2 ⟨(d,H'),hd.val,rfl⟩
    ·cases h
   ·rename_i rj
    split at h
    ·rename_i gJ
     simp only[ah,cr]at gJ
     refine .jk (Nu s args) ?_ (NN fj (Qu hg) hf rj h k)
     rw[gJ.1.2];rfl
    ·exact NN fj hg hf rj h k
theorem Zy(qt:Cl T rd){e:eX}{r:List eX}{s:St}{v:Nat}{args:List D}{l:List St}{R:lJ→Prop}(hg:guardOf s.env.get e.guard=some true)(hc:yieldOf s.env.get e.op=some (v,args))
  (h:Ih T rd e s v args=some l) (k:∀ s'∈l,Ev T (.ops r s') R):Ev T (.ops (e::r) s) R:=by
 unfold Ih at h
 split at h
 ·rename_i rf env0 hv
  split at h
  ·rename_i Rd hR
   split at h
   ·rename_i hl
    split at h
    ·rename_i la sN
     split at h
     ·rename_i lb RI
      have hA:=qV RI
      have hB:=qV h
      refine .Cu hg hc hv hR hl (qt _ _ _ sN) (Rb:=pW lb) (fun o ho=>?_) (fun s1 iV jU kY=>?_) (fun o ho=>?_) fun o iL ho mb=>?_
      ·obtain⟨y,hy,_⟩:=hA o ho.out
       split at hy
       ·rename_i s1
        split at hy
        ·rename_i Ny iV kY
         split at hy
         ·rename_i e1;subst e1;exact⟨rfl,iV,kY⟩
         ·cases hy
        ·cases hy
       ·cases hy
      ·obtain⟨y,hy,iQ⟩:=hA _ jU.out
       simp only[kY,if_true]at hy
       exact(qt _ _ _ hy).mono fun r hr=>hr.sub iQ
      ·obtain⟨y,hy,_⟩:=hB o ho.out
       split at hy
       ·rename_i Nz iL mb
        split at hy
        ·rename_i e2;subst e2;exact⟨iL,mb⟩
        ·cases hy
       ·cases hy
      ·obtain⟨y,hy,iQ⟩:=hB o ho.out
       simp only[mb,if_true]at hy
       cases hy
       exact k _ (iQ _ (by simp))
     ·cases h
    ·cases h
   ·cases h
  ·cases h
 ·cases h
theorem Zx{e:eX}{r:List eX}{s:St}{x:X}{l:List St}{R:lJ→Prop}(hg:guardOf s.env.get e.guard=some true)(fL:e.op = .nextM x)
  (h:Ig e s x=some l) (k:∀ s'∈l,Ev T (.ops r s') R):Ev T (.ops (e::r) s) R:=by
 unfold Ig at h
 split at h
 ·rename_i v hx
  split at h
  ·rename_i m since seen hv
   split at h
   ·rename_i kk es hm
    split at h
    ·rename_i hs
     dsimp only at h
     refine .next hg fL hx hv hm hs (fun h0=>?_) fun i kv d hi ur=>?_
     ·rw[if_pos]at h
      ·cases h
       exact k _ (by simp)
      ·rw[cr,c7]
       intro i hi
       have:=h0 i (by simpa using hi)
       simpa using this
     ·have fe:=(af.1 hi).1
      rw[if_neg]at h
      ·cases h
       refine k _ (bR.2 ⟨i,aT.2 ⟨by simpa using fe,by simpa using ur⟩,?_⟩)
       simp only[hi]
      ·rw[cr,c7]
       intro h0
       have:=h0 i (by simpa using fe)
       simp at this
       exact ur this
    ·cases h
   ·cases h
  ·cases h
 ·cases h
theorem zC(fj:mV T cl)(qt:Cl T rd):∀ (l:List eX) (s:St) (r:List St),qG T cl rd l s=some r→Ev T (.ops l s) (xh r)
 | [],s,r,h=>by cases h;exact .nil ⟨s,by simp,rfl⟩
 | e::r,s,res,h=>by
  have go:∀ {l:List St},(nD l fun s'=>qG T cl rd r s')=some res→∀ s'∈l,Ev T (.ops r s') (xh res):=fun hl s' fq=>by
   obtain⟨y,hy,iQ⟩:=qV hl s' fq
   exact(zC fj qt r s' y hy).mono fun _ hr=>hr.sub iQ
  simp only[qG]at h
  split at h
  ·cases h
  ·rename_i hg;exact .off hg (zC fj qt r _ _ h)
  ·rename_i hg
   split at h
   ·rename_i d δ ha;exact .op hg ha (zC fj qt r _ _ h)
   ·split at h
    ·rename_i d δ ha;exact .uZ hg ha (zC fj qt r _ _ h)
    ·split at h
     ·rename_i x fL
      split at h
      ·rename_i l hl;exact Zx hg fL hl (go h)
      ·cases h
     ·split at h
      ·rename_i v args hc
       split at h
       ·rename_i l hl;exact Zy qt hg hc hl (go h)
       ·cases h
      ·split at h
       ·cases h
       ·rename_i hc
        split at h
        ·rename_i l hl;exact Zw fj hg hl (go h)
        ·cases h
theorem uW(fj:mV T cl)(st:Bool):∀ (l:List eX) (s:St) (rs:List Rc) (s':St),rM T cl st l s=some (rs,s')→Ev T (.trace l s) (fun r=>r = .tr rs s')
 | [],s,rs,s',h=>by cases h;exact .zT rfl
 | e::r,s,rs,s',h=>by
  simp only[rM]at h
  split at h
  ·cases h
  ·rename_i hg
   split at h
   ·rename_i h1;cases h;exact .zU hg (uW fj st r _ _ _ h1) fun _ _ h=>by cases h;rfl
   ·cases h
  ·rename_i hg
   split at h
   ·rename_i d δ ha
    split at h
    ·rename_i h1;cases h;exact .zV hg ha (uW fj st r _ _ _ h1) fun _ _ h=>by cases h;rfl
    ·cases h
   ·split at h
    ·cases h
    ·rename_i f args hc
     split at h
     ·cases h
     ·rename_i fn hf
      split at h
      ·cases h
      ·rename_i rj
       have oh:fn.full=false:=by
        simp only[bW,not_or]at rj
        simpa using rj.1
       split at h
       ·rename_i d gR
        by_cases hr:(if eV args=true then closed d else flat d)=true
        ·rw[if_pos hr]at h
         split at h
         ·rename_i h1;cases h
          refine .zP hg hc hf oh (fj _ _ _ _ gR) (fun d' Hn hd=>?_) hr (uW fj st r _ _ _ h1) fun _ _ h=>by cases h;rfl
          have:=hd.val
          simp only[List.mem_singleton,dx]at this
          exact this
         ·cases h
        ·rw[if_neg hr]at h
         split at h
         ·rename_i g qW fL
          split at h
          ·rename_i v l gw
           split at h
           ·rename_i gJ
            simp only[ah,ao,decide_eq_true_eq]at gJ
            obtain⟨⟨⟨c1,c2⟩,c3⟩,c4⟩:=gJ
            split at h
            ·rename_i h1;cases h
             have mJ:some (g,qW.map (ev s.env.get))=some (f,args):=by rw[← hc,fL];rfl
             cases mJ
             refine .zS (v:=v) hg fL rfl hf oh (fun u hu=>?_) (by rw[gw];simp) c2 c3 (fj _ _ _ _ gR) (fun d' Hn hd=>?_) c4 (uW fj st r _ _ _ h1) fun _ _ h=>by cases h;rfl
             ·rw[gw]at hu
              rcases ax.1 hu with h|h
              ·exact h
              ·exact c1 u h
             ·have:=hd.val
              simp only[List.mem_singleton,dx]at this
              exact this
            ·cases h
           ·cases h
          ·cases h
         ·cases h
       ·rename_i d ob gR
        split at h
        ·rename_i g qW fL
         by_cases hr:(if eV args=true then jX d&&kU ob else lV d&&l4 ob)=true
         ·rw[if_pos hr]at h
          split at h
          ·rename_i h1;cases h
           have mJ:some (g,qW.map (ev s.env.get))=some (f,args):=by rw[← hc,fL];rfl
           cases mJ
           refine .zQ hg fL rfl hf oh (fj _ _ _ _ gR) (fun d' Hn hd=>?_) hr (uW fj st r _ _ _ h1) fun _ _ h=>by cases h;rfl
           have:=hd.val
           simp only[List.mem_singleton,dx]at this
           exact this
          ·cases h
         ·rw[if_neg hr]at h;cases h
        ·cases h
       ·cases h
theorem Ie(fj:mV T cl)(qt:Cl T rd){lp:Nat→List Nat→IR→St→Option (List Out)}(RN:∀ n live a s l,lp n live a s=some l→Ev T (.loop n live a s) (pW l)) :
  ∀ (c:IR) (s:St) (l:List Out),mR T cl lp rd c s=some l→Ev T (.code c s) (pW l):=by
 intro c
 induction c with
 | skip=>intro s l h;cases h;exact .skip ⟨_,by simp,rfl⟩
 | ops ops=>
  intro s l h
  simp only[mR]at h
  split at h
  ·rename_i l0 h1
   cases h
   refine .xM ((zC fj qt _ _ _ h1).mono fun r hr=>?_)
   obtain⟨s',fq,rfl⟩:=hr
   exact⟨_,aw.2 ⟨s',fq,rfl⟩,rfl⟩
  ·cases h
 | jN gM ops es=>intro s l h;simp[mR]at h
 | eN gM ops=>
  intro s l h
  simp only[mR]at h
  split at h
  ·rename_i rs s' h1
   split at h
   ·rename_i hp;cases h;exact .eN (uW fj _ _ _ _ _ h1) fun _ _ h=>by cases h;exact⟨hp,_,by simp,rfl⟩
   ·cases h
  ·split at h
   ·rename_i hm
    split at h
    ·rename_i rs s' h1
     split at h
     ·rename_i hp;cases h
      refine .xX (List.range s.H.length) ?_ (.eN (uW fj _ _ _ _ _ h1) fun _ _ h=>by cases h;exact⟨hp,_,by simp,rfl⟩)
      rw[cr]at hm
      rw[hm];rfl
     ·cases h
    ·cases h
   ·cases h
 | seq a b mc qx=>
  intro s l h
  simp only[mR]at h
  split at h
  ·rename_i l0 h1
   have hm:=qV h
   refine .seq (mc _ _ h1) (fun s' fq=>?_) fun o ho eJ=>?_
   ·obtain⟨y,hy,iQ⟩:=hm _ fq.out
    exact(qx _ _ hy).mono fun _ hr=>hr.sub iQ
   ·obtain⟨y,hy,iQ⟩:=hm _ ho.out
    cases o with
    | norm=>cases eJ
    | exit id s'=>cases hy;exact⟨_,iQ _ (by simp),rfl⟩
    | ret s'=>cases hy;exact⟨_,iQ _ (by simp),rfl⟩
  ·cases h
 | cond c a b mc qx=>
  intro s o h
  simp only[mR]at h
  split at h
  ·rename_i hc;exact .cond (x:=true) hc (mc _ _ h)
  ·rename_i hc;exact .cond (x:=false) hc (qx _ _ h)
  ·cases h
 | block id live a mc=>
  intro s l h
  simp only[mR]at h
  split at h
  ·rename_i l0 h1
   cases h
   refine .block (mc _ _ h1) fun o ho=>⟨_,Eb (fun _ _=>PN) (aw.2 ⟨o,ho.out,rfl⟩),rfl⟩
  ·cases h
 | loop live a mc=>intro s o h;exact .loop (RN _ _ _ _ _ h)
 | jY rf live x=>
  intro s l h
  simp only[mR]at h
  split at h
  ·cases h
  ·rename_i lD
   split at h
   ·rename_i f first cap hx
    split at h
    ·rename_i fn hf
     split at h
     ·rename_i rj
      split at h
      ·rename_i l0 gR
       have hm:=qV h
       refine .jY (by simpa using lD) hx hf rj (fj _ _ _ _ gR) fun d H' hd=>?_
       obtain⟨y,hy,iQ⟩:=hm _ hd.val
       dsimp only at hy
       split at hy
       ·rename_i Nx env st ky
        split at hy
        ·rename_i e;subst e
         split at hy
         ·rename_i o ho
          cases hy
          exact⟨env,st,o,ky,ho,_,iQ _ (by simp),rfl⟩
         ·cases hy
        ·cases hy
       ·cases hy
      ·cases h
     ·cases h
    ·cases h
   ·cases h
 | exit id=>intro s o h;cases h;exact .exit ⟨_,by simp,rfl⟩
 | ret=>intro s o h;cases h;exact .ret ⟨_,by simp,rfl⟩
 | bad=>intro s o h;cases h
 | fz _ _=>intro s o h;cases h
 | po _ _ _=>intro s o h;cases h
end
section
variable{T:fH}
def qR(T:fH)(M:pX):Prop:=∀ p∈M,Ev T (.call p.1 p.2.1 []) (nU p.2.2)
theorem qR.nil(T:fH):qR T []:=fun p hp=>by cases hp
theorem qR.cons{T:fH}{f:FuncId}{args:List D}{l:List (D×et)}{M:pX}(h:Ev T (.call f args []) (nU l))(t:qR T M):qR T ((f,args,l)::M):=fun p hp=>by
 rcases ax.1 hp with rfl|hp
 ·exact h
 ·exact t p hp
theorem Zb{M:pX}(hM:qR T M){f:FuncId}{args:List D}{l:List (D×et)}(h:zr M f args=some l):Ev T (.call f args []) (nU l):=by
 induction M with
 | nil=>cases h
 | cons p M ih=>
  obtain⟨g,qW,l'⟩:=p
  have sG:qR T M:=fun q hq=>hM q (by simp[hq])
  simp only[zr]at h
  split at h
  ·rename_i hg
   split at h
   ·rename_i ha
    cases h
    have:=hM (g,qW,l) (by simp)
    rw[q7 ha,cA hg]at this
    exact this
   ·exact ih sG h
  ·exact ih sG h
theorem NQ{M:pX}(hM:qR T M):∀ k:Nat,(∀ n live a s l,uV T M k n live a s=some l→Ev T (.loop n live a s) (pW l))∧Cl T (wI T M k)∧mV T (run T M k)
 | 0=>⟨fun _ _ _ _ _ h=>by simp[uV]at h,fun _ _ _ h=>by simp[wI]at h,fun _ _ _ _ h=>by simp[run]at h⟩
 | k+1=>by
  obtain⟨i1,i2,i3⟩:=NQ hM k
  refine⟨fun n live a s l h=>?_,fun c s l h=>?_,fun f args H l h=>?_⟩
  ·simp only[uV]at h
   split at h
   ·rename_i l0 h1
    have hm:=qV h
    refine .sY (Ie i3 i2 i1 _ _ _ h1) (fun s' fq=>?_) fun o ho eJ=>?_
    ·obtain⟨y,hy,iQ⟩:=hm _ fq.out
     exact(i1 _ _ _ _ _ hy).mono fun _ hr=>hr.sub iQ
    ·obtain⟨y,hy,iQ⟩:=hm _ ho.out
     cases o with
     | norm=>cases eJ
     | exit id s'=>cases hy;exact⟨_,iQ _ (by simp),rfl⟩
     | ret s'=>cases hy;exact⟨_,iQ _ (by simp),rfl⟩
   ·cases h
  ·simp only[wI]at h
   exact Ie i3 i2 i1 _ _ _ h
  ·simp only[run]at h
   split at h
   ·rename_i l0 hk
    cases h
    cases H with
    | nil=>exact Zb hM hk
    | cons=>cases hk
   split at h
   ·cases h
   ·rename_i fn hf
    split at h
    ·rename_i hl
     split at h
     ·rename_i l0 h1
      split at h
      ·rename_i ps h2
       cases h
       have hm:=qV h2
       refine .call fn.own hf hl (Ie i3 i2 i1 _ _ _ h1) fun o ho=>?_
       obtain⟨y,hy,iQ⟩:=hm _ ho.out
       split at hy
       ·rename_i p hp
        cases hy
        exact⟨p.1,p.2,hp,p,Eb (fun _ _=>PQ) (iQ _ (by simp)),rfl⟩
       ·cases hy
      ·cases h
     ·cases h
    ·cases h
theorem uX{M:pX}(hM:qR T M){k:Nat}{f:FuncId}{args:List D}{H:et}{l:List (D×et)}(h:run T M k f args H=some l):Ev T (.call f args H) (nU l):=(NQ hM k).2.2 f args H l h
end
end Go.AL
namespace Go.AL
open Go
@[reducible] def o(k:Nat)(op:fY):eX:={ dst:=some k,op:=op,guard:=none }
@[reducible] def u(op:fY):eX:={ dst:=none,op:=op,guard:=none }
@[reducible] def og(j:Nat)(b:Bool)(k:Nat)(op:fY):eX:={ dst:=some k,op:=op,guard:=some (j,b) }
@[reducible] def ug(j:Nat)(b:Bool)(op:fY):eX:={ dst:=none,op:=op,guard:=some (j,b) }
@[reducible] def M(k j:Nat):eX:=o k (.mv (.t j))
@[reducible] def L(k j:Nat):eX:=o k (.ld1 (.t j))
@[reducible] def N(k n j:Nat):eX:=o k (.ldN n (.t j))
@[reducible] def F(k i j:Nat):eX:=o k (.fieldA i (.t j))
@[reducible] def A(k:Nat)(p:BinOp)(j:Nat)(n:Int):eX:=o k (.arith p (.t j) (.c (.i n)))
@[reducible] def B(k:Nat)(p:BinOp)(i j:Nat):eX:=o k (.arith p (.t i) (.t j))
@[reducible] def I(k n i j:Nat):eX:=o k (.idxA n (.t i) (.t j))
@[reducible] def cq(k:Nat)(n:Int):eX:=o k (.mv (.c (.i n)))
@[reducible] def sq(n i j:Nat):eX:=u (.stN n (.t i) (.t j))
@[reducible] def xq(k t j:Nat):eX:=o k (.box t (.t j))
@[reducible] def zq(k j:Nat):eX:=o k (.len .slice (.t j))
@[reducible] def pq(k a b:Nat):eX:=o k (.pick (.t a) (.c (.b true)) (.t b))
@[reducible] def rq(k a b:Nat):eX:=o k (.pick (.t a) (.t b) (.c (.b false)))
@[reducible] def kq(k f j:Nat):eX:=o k (.call f [.t j])
@[reducible] def G(i:Nat)(b:Bool)(k j:Nat):eX:=og i b k (.mv (.t j))
@[reducible] def eM(i:Nat)(b:Bool)(k j:Nat):eX:=og i b k (.ld1 (.t j))
@[reducible] def eT(i:Nat)(b:Bool)(k n j:Nat):eX:=og i b k (.fieldA n (.t j))
@[reducible] def e9(i:Nat)(b:Bool)(k:Nat)(p:BinOp)(j:Nat)(n:Int):eX:=og i b k (.arith p (.t j) (.c (.i n)))
@[reducible] def fQ(i:Nat)(b:Bool)(k:Nat)(p:BinOp)(j n:Nat):eX:=og i b k (.arith p (.t j) (.t n))
@[reducible] def nE(k:Nat):eX:=o k (.mv (.c .U))
@[reducible] def nF(k:Nat):eX:=o k (.mv (.c (.b false)))
@[reducible] def nT(k:Nat):eX:=o k (.mv (.c (.b true)))
@[reducible] def Q(l:List eX)(b:IR):IR:=.seq (.ops l) b
@[reducible] def cx(n k:Nat):IR:=.cond (.t n) .skip (.exit k)
def nth:List (Option eA)→Nat→Option eA
 | [],_=>none
 | a::_,0=>a
 | _::l,n+1=>nth l n
def assoc:List (Nat×mi)→Nat→Option mi
 | [],_=>none
 | (k,R)::l,n=>if k=n then some R else assoc l n
def elem(f:Nat):List Nat→Bool
 | []=>false
 | a::l=>if a=f then true else elem f l
def E'(fn:Func):Code:=fn.body.getD .skip
def Eo(P:Program)(rf:Nat):Array Tmp:=match te P rf with
 | some (_,ps,_,_)=>ps
 | none=>#[]
def Ek(P:Program)(rf:Nat):Code:=match te P rf with
 | some (_,_,a,_)=>a
 | none=>.skip
def Em(P:Program)(rf:Nat):Code:=match te P rf with
 | some (_,_,_,b)=>b
 | none=>.skip
section
variable{P:Program}{G:GT}
theorem Qn{f:FuncId}{fn:eA}{func:Func}{code:Code}{hs fq:List (List Nat)}(h1:P.funcs[f]? = some func)(h2:func.body=some code)(h3:nI P f=true)(h4:(k9 code).length≤64)
  (h5:cC P G fn.ntmps (64*f) hs code=some (fn.body,fq)) (h6:func.ntmps=fn.ntmps) (h7:tz P func.results.toList=some fn.results):xg P G f fn:=⟨⟨func,code,hs,fq,h1,h2,h3,h4,h5,h6,h7⟩⟩
theorem En{rf:Nat}{R:mi}{N:Nat}{ps:Array Tmp}{ac bc:Code}(ha hb:List (List Nat))(h1:G.rt rf=some (N,ps,ac,bc))(h2:ps.toList=R.params)(h3:(R.params.all fun p=>decide (p<N))=true)
  (h4:k9 ac = []∧k9 bc = []) (h5:cC P G N 0 ha ac=some (R.a,[])) (h6:cC P G N 0 hb bc=some (R.b,[])):rY P G rf R:=
 ⟨⟨N,ps,ac,bc,h1,h2,h3,Fe (fun i x hx=>by rw[h4.1]at hx;cases hx) h5,Fe (fun i x hx=>by rw[h4.2]at hx;cases hx) h6⟩⟩
inductive qP(P:Program)(G:GT):Nat→List (Option eA)→Prop
 | nil (k:Nat):qP P G k []
 | has {k:Nat} {fn:eA} {l:List (Option eA)} (h:xg P G k fn) (t:qP P G (k+1) l):qP P G k (some fn::l)
 | no {k:Nat} {l:List (Option eA)} (t:qP P G (k+1) l):qP P G k (none::l)
inductive tt(P:Program)(G:GT):List (Nat×mi)→Prop
 | nil:tt P G []
 | cons {k:Nat} {R:mi} {l:List (Nat×mi)} (h:rY P G k R) (t:tt P G l):tt P G ((k,R)::l)
theorem qP.get:∀ {l:List (Option eA)} {k:Nat},qP P G k l→∀ (i:Nat) (fn:eA),nth l i=some fn→xg P G (k+i) fn:=by
 intro l k h
 induction h with
 | nil=>intro i fn hi;cases hi
 | has h t ih=>
  intro i fn hi
  cases i with
  | zero=>cases hi;exact h
  | succ i=>
   have:=ih i fn hi
   rwa [bf,di 1 i]at this
 | no t ih=>
  intro i fn hi
  cases i with
  | zero=>cases hi
  | succ i=>
   have:=ih i fn hi
   rwa [bf,di 1 i]at this
theorem tt.get{l:List (Nat×mi)}(h:tt P G l):∀ (i:Nat) (R:mi),assoc l i=some R→rY P G i R:=by
 induction h with
 | nil=>intro i R hi;cases hi
 | @cons k R0 l h t ih=>
  intro i R hi
  simp only[assoc]at hi
  split at hi
  ·rename_i e;subst e;cases hi;exact h
  ·exact ih i R hi
theorem aan{l:List (Option eA)}{r:List (Nat×mi)}{so:FuncId→Option Nat}(wg:G.rt=te P)(h:qP P G 0 l)(h2:tt P G r){si:FuncId→Bool}(h3:∀ f sz,so f=some sz→qU P f sz)(h4:∀ f,si f=true→tu P f):E4 P G { fn:=nth l,round:=assoc r,sort:=so,oL:=si } where
 sort:=h3
 oL:=h4
 rt:=wg
 fn f fn hf:=by
  have:=h.get f fn hf
  rwa [aX]at this
 round:=h2.get
