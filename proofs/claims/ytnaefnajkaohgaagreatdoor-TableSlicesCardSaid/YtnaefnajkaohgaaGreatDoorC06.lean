/- Part 6 of the proof of skewer.skewerlaw15.TableSlices. -/
import Derived.Test.YtnaefnajkaohgaaGreatDoorC05
import Derived.Test.YtnaefnajkaohgaaGreatDoorC04
import Derived.KernelRfl
set_option linter.all false
namespace Go.AL
open Go
def CC(P:Program)(G:GT)(g:FuncId)(args:List D)(d:D)(Hn:Heap):Prop:=entersB P g=true∧CallOK P G g args [] d Hn
def outs(R:Res→Prop):Out→Prop:=fun o=>R (.out o)
def vals(R:Res→Prop):D→Heap→Prop:=fun d H=>R (.val d H)
def Good(P:Program)(G:GT):Job→(Res→Prop)→Prop
 | .ops l s,R=>∀ (N:Nat) (A:Array Oper) (ops:List Oper),compileOpers P G N A ops=some l →
   ∀ (ro:Option Nat) (n:Nat) (Q:Exit→Act→World→Prop) (c:Ctx) (w:World) (a:Act),(s.rnd=false→ro=none)→SOK G N c w s a→Goes G N s.H.length s.rnd c s.H w (outs R) Q→wpListIn (FW ro) n P A Q ops a w
 | .code ir s,R=>∀ (N:Nat) (code:Code),CRel P G N ir code →
   ∀ (ro:Option Nat) (n:Nat) (Q:Exit→Act→World→Prop) (c:Ctx) (w:World) (a:Act),(s.rnd=false→ro=none)→SOK G N c w s a→Goes G N s.H.length s.rnd c s.H w (outs R) Q→code.wpIn (FW ro) n P Q a w
 | .loop n0 _ ir s,R=>n0≤s.H.length→∀ (N:Nat) (code:Code),CRel P G N ir code →
   ∀ (ro:Option Nat) (n:Nat) (Q:Exit→Act→World→Prop) (c:Ctx) (w:World) (a:Act),(s.rnd=false→ro=none)→SOK G N c w s a→Goes G N n0 s.rnd c s.H w (outs R) Q→LoopIn (FW ro) n P code Q a w
 | .call f args H,R=>CallR P G f args H (vals R)
 | .trace l s,R=>∃ rs s',R (.tr rs s')∧s.H.length≤s'.H.length∧s'.marks=s.marks∧s'.rnd=s.rnd∧∀ (K k0:Nat),s'.H.length≤K→∃ items:List TItem,items.map (·.e)=l∧items.map (·.rc)=rs∧items.map (·.k)=List.range' k0 l.length ∧
   Tx (CC P G) s.env.get (s.H++room (K-s.H.length)) items s'.env.get (s'.H++room (K-s'.H.length))
section
variable{P:Program}{G:GT}{T:Tab}
theorem Goes.mono{N n m:Nat}{rnd:Bool}{c c1:Ctx}{H H1:Heap}{w w1:World}{R:Out→Prop}{Q:Exit→Act→World→Prop}(h:Goes G N n rnd c H w R Q)(hs:Step n c H w c1 H1 w1)(hm:n≤m):Goes G N m rnd c1 H1 w1 R Q:=
 fun o c' w' a' hR hr hl hok hst=>h o c' w' a' hR hr (Nat.le_trans hm hl) hok (hs.trans hst hm)
theorem cops_cons{N:Nat}{A:Array Oper}{o:Oper}{r:List Oper}{l:List IEnt}(h:compileOpers P G N A (o::r)=some l) :
  ∃ e l',l=e::l'∧compileOper P G N A o=some e∧compileOpers P G N A r=some l':=by
 simp only[compileOpers]at h
 split at h
 ·rename_i e l' he hl
  cases h
  exact⟨e,l',rfl,he,hl⟩
 ·cases h
theorem cops_nil{N:Nat}{A:Array Oper}{ops:List Oper}(h:compileOpers P G N A ops=some []):ops = []:=by
 cases ops with
 | nil=>rfl
 | cons o r=>
  obtain⟨e,l',h1,_⟩:=cops_cons h
  cases h1
theorem cops_append{N:Nat}{A:Array Oper}:∀ {l es:List IEnt} {ops:List Oper},compileOpers P G N A ops=some (l++es)→∃ o1 o2,ops=o1++o2∧compileOpers P G N A o1=some l∧compileOpers P G N A o2=some es
 | [],es,ops,h=>⟨[],ops,rfl,rfl,h⟩
 | e::l,es,ops,h=>by
  cases ops with
  | nil=>cases h
  | cons o r=>
   obtain⟨e',l',h1,h2,h3⟩:=cops_cons h
   cases h1
   obtain⟨o1,o2,rfl,h4,h5⟩:=cops_append h3
   exact⟨o::o1,o2,rfl,by simp only[compileOpers,h2,h4],h5⟩
theorem cops_get{N:Nat}{A:Array Oper}:∀ {ops:List Oper} {l:List IEnt},compileOpers P G N A ops=some l→ops.length=l.length∧∀ (i:Nat) (o:Oper) (e:IEnt),ops[i]? = some o→l[i]? = some e→compileOper P G N A o=some e:=by
 intro ops
 induction ops with
 | nil=>intro l h;cases h;exact⟨rfl,fun i o e h=>by simp at h⟩
 | cons o r ihr=>
  intro l h
  obtain⟨e,l',rfl,h1,h2⟩:=cops_cons h
  obtain⟨q1,q2⟩:=ihr h2
  refine⟨by simp[q1],fun i o' e' ho he=>?_⟩
  cases i with
  | zero=>simp at ho he;subst ho;subst he;exact h1
  | succ i=>exact q2 i o' e' (by simpa using ho) (by simpa using he)
theorem cops_split{N:Nat}{A:Array Oper}{ops:List Oper}{e:IEnt}{l:List IEnt}(h:compileOpers P G N A ops=some (e::l)) :
  ∃ o r,ops=o::r∧compileOper P G N A o=some e∧compileOpers P G N A r=some l:=by
 cases ops with
 | nil=>cases h
 | cons o r=>
  obtain⟨e',l',h1,h2,h3⟩:=cops_cons h
  cases h1
  exact⟨o,r,rfl,h2,h3⟩
theorem wp_callee{N:Nat}{c:Ctx}{w:World}{s:St}{a:Act}{ro:Option Nat}{n:Nat}{o:Oper}{io:IOp}{f:FuncId}{args:List D}{next:Act→World→Prop}{Q:Exit→Act→World→Prop}(hs:SOK G N c w s a)(hc:compileOp P G o=some io)
  (hd:dstOK N o.dst=true) (hcal:calleeOf s.env.get io=some (f,args)) (hent:entersB P f=true) {R:D→Heap→Prop}
  (hcall:∀ vs:List Value,RepL c w vs args→Calls P f vs.toArray w fun e w'=>∃ v c' d H',e = .returned v∧R d H'∧HOK G c' H' w'∧Rep c' w' v d∧Step s.H.length c s.H w c' H' w')
  (k:∀ d H' c' w' a',R d H'→SOK G N c' w' { s with env:=put s.env o.dst d,H:=H' } a'→Step s.H.length c s.H w c' H' w'→next a' w'):o.wpIn (FW ro) n P a w next Q:=by
 obtain⟨vs,hrun,hrl⟩:=run_callee hs.hok hs.env hc hcal hent
 refine⟨fun _ _=>trivial,?_⟩
 rw[Oper.semAt_plain (FW ro) a.eval o (no_defer hc),hrun]
 refine⟨fun h=>by simp[Fence.wide]at h,callsIn_FW.2 ((hcall vs hrl).mono ?_)⟩
 rintro e w' ⟨v,c',d,H',rfl,hR,hok,hr,hst⟩
 exact k d H' c' w' _ hR (hs.next hok hst hd hr) hst
theorem after_spec{s s1:St}{dst:Option Nat}{args:List D}{r:D}{Hn:Heap}(h:after s dst args r Hn=some s1) :
  (if closedL args then okRes r&&Hn.all closedOb else okFlat r&&Hn.all flatOb)=true∧s1 = { s with env:=put s.env dst (lift1 s.H.length r),H:=s.H++Hn }:=by
 unfold after at h
 generalize (if closedL args=true then okRes r&&Hn.all closedOb else okFlat r&&Hn.all flatOb)=b at h
 cases b
 ·cases h
 ·cases h;exact⟨rfl,rfl⟩
theorem plain_not_special{P:Program}{G:GT}{o:Oper}{io:IOp}(hc:compileOp P G o=some io):special io=false:=by
 unfold compileOp at hc
 split at hc
 all_goals try simp only[Option.bind_eq_bind,Option.bind_eq_some_iff,Option.pure_def]at hc
 all_goals (repeat' first|(obtain⟨_,_,hc⟩:=hc)|split at hc|simp only[Option.bind_eq_some_iff]at hc)
 all_goals first|rfl|(cases hc;done)|(cases hc;rfl)|(split<;>rfl)
theorem plain_not_next{P:Program}{G:GT}{o:Oper}{x:X}(hc:compileOp P G o=some (.nextM x)):False:=by
 have:=plain_not_special hc
 cases this
theorem plain_not_sop{P:Program}{G:GT}{o:Oper}{io:IOp}(hc:compileOp P G o=some io){f:EnvF}{H:Heap}{n:Nat}{r:D×Dl}(h:sopO f H n io=some r):False:=by
 have:=plain_not_special hc
 cases io<;>first|(cases h;done)|(cases this;done)
theorem results_marks{fn:FnA}(s:St)(ms:List Nat):AL.results fn { s with marks:=ms }=AL.results fn s:=by
 have h1:∀ x,resOf { s with marks:=ms } x=resOf s x:=fun x=>by cases x<;>rfl
 have h2:∀ l,resAll { s with marks:=ms } l=resAll s l:=by
  intro l
  induction l with
  | nil=>rfl
  | cons x r ih=>simp only[resAll,h1,ih]
 simp only[AL.results,h2]
theorem good(hM:P.follows .mixedOrders=true)(hT:TabOK P G T){j:Job}{R:Res→Prop}(h:Ev T j R):Good P G j R:=by
 induction h with
 | @mono j R R' h hi ih=>
  cases j with
  | ops l s=>exact fun N A ops hc ro n Q c w a hro hs hk=>ih N A ops hc ro n Q c w a hro hs fun o c' w' a' hR=>hk o c' w' a' (hi _ hR)
  | code ir s=>exact fun N code hc ro n Q c w a hro hs hk=>ih N code hc ro n Q c w a hro hs fun o c' w' a' hR=>hk o c' w' a' (hi _ hR)
  | loop n0 live ir s=>exact fun hn N code hc ro n Q c w a hro hs hk=>ih hn N code hc ro n Q c w a hro hs fun o c' w' a' hR=>hk o c' w' a' (hi _ hR)
  | call f args H=>exact fun c w vs h1 h2=>(ih c w vs h1 h2).mono fun _ _ ⟨v,c',d,H',he,hR,r⟩=>⟨v,c',d,H',he,hi _ hR,r⟩
  | trace l s=>
   obtain⟨rs,s',h1,h2⟩:=ih
   exact⟨rs,s',hi _ h1,h2⟩
 | @sort f g fn sz v gen t H R α fc l cf hs hg hl hcl h0 h62 irr tr nt hc hv k ihc=>
  obtain⟨func,code,h1,h2,t1,t2,t3,_⟩:=(hT.fn g fn hg).ex
  exact sort_ok (hT.sort f sz hs) t3 fc l hl hcl h0 h62 cf irr tr nt (fun x hx y hy c w vs h1 h2=>(ihc x hx y hy c w vs h1 h2).mono fun _ _ ⟨v,c',d,H',he,hR,r⟩=>⟨v,c',d,H',he,by obtain⟨_,e⟩:=hR;cases e;rfl,r⟩) hv k
 | @sortE f sz x H R hs k=>exact sort_none (hT.sort f sz hs) (f:=f) (g:=0) k
 | @sortI f v gen t H R l hs h0 h62 hv k=>exact sorti_ok (hT.sortI f hs) l h0 h62 hv k
 | @nil s R h=>
  intro N A ops hc ro n Q c w a hro hs hk
  rw[cops_nil hc]
  exact hk _ c w a h rfl (Nat.le_refl _) hs (Step.refl _ _ _ _)
 | @op e r s d δ R hg h t ih=>
  have hle:s.H.length≤(δ.app s.H (Al.last s.H)).length:=app_len δ s.H
  intro N A ops hc ro n Q c w a hro hs hk
  obtain⟨o,r',rfl,ho,hr'⟩:=cops_split hc
  obtain⟨s1,s2,s3,s4⟩:=compileOper_spec ho
  have hw:=wanted_ok hs.env s4 hg
  simp only[wpListIn,hw,if_true]
  have s1:=comp_plain s1 h
  refine wp_plain hs s1 s3 (AlOK.last s.H) h fun c' w' a' hs' hst=>?_
  rw[← s2]at hs'
  exact ih N A r' hr' ro n Q c' w' a' hro hs' (hk.mono hst hle)
 | @sop e r s d δ R hg h t ih=>
  have hle:s.H.length≤(δ.app s.H (Al.last s.H)).length:=app_len δ s.H
  intro N A ops hc ro n Q c w a hro hs hk
  obtain⟨o,r',rfl,ho,hr'⟩:=cops_split hc
  obtain⟨s1,s2,s3,s4⟩:=compileOper_spec ho
  have hw:=wanted_ok hs.env s4 hg
  simp only[wpListIn,hw,if_true]
  have s1:=s1.resolve_left fun h2=>plain_not_sop h2 h
  refine wp_special hs s1 s3 (AlOK.last s.H) h fun c' w' a' hs' hst=>?_
  rw[← s2]at hs'
  exact ih N A r' hr' ro n Q c' w' a' hro hs' (hk.mono hst hle)
 | @off e r s R hg t ih=>
  intro N A ops hc ro n Q c w a hro hs hk
  obtain⟨o,r',rfl,ho,hr'⟩:=cops_split hc
  obtain⟨s1,s2,s3,s4⟩:=compileOper_spec ho
  have hw:=wanted_ok hs.env s4 hg
  simp only[wpListIn,hw,Bool.false_eq_true,if_false]
  refine⟨fun _ _=>trivial,?_⟩
  have hs':=hs.next hs.hok (Step.refl _ _ _ _) s3 (v:=undef) (d:=.val undef) (.val _)
  rw[← s2]at hs'
  rw[← s2]
  exact ih N A r' hr' ro n Q c w _ hro (by rw[s2]at hs' ⊢;exact hs') hk
 | @frz l s R S hm t ih=>
  have hlen:(frz S s).H.length=s.H.length:=freezeKs_len
  intro N A ops hc ro n Q c w a hro hs hk
  obtain⟨c',hs',hst,_⟩:=frz_ok hs S
  refine ih N A ops hc ro n Q c' w a hro hs' ?_
  rw[hlen]
  exact hk.mono hst (Nat.le_refl _)
 | @frzC code s R S hm t ih=>
  have hlen:(frz S s).H.length=s.H.length:=freezeKs_len
  intro N code hc ro n Q c w a hro hs hk
  obtain⟨c',hs',hst,_⟩:=frz_ok hs S
  refine ih N code hc ro n Q c' w a hro hs' ?_
  rw[hlen]
  exact hk.mono hst (Nat.le_refl _)
 | @forgO l s R live t ih=>
  intro N A ops hc ro n Q c w a hro hs hk
  exact ih N A ops hc ro n Q c w a hro ⟨hs.hok,env_forget hs.env live,hs.size,hs.marks⟩ hk
 | @forg code s R live t ih=>
  intro N code hc ro n Q c w a hro hs hk
  exact ih N code hc ro n Q c w a hro ⟨hs.hok,env_forget hs.env live,hs.size,hs.marks⟩ hk
 | @callP e r s f args fn R1 R hg hc hf hp h ha t ihc ih=>
  intro N A ops hcc ro n Q c w a hro hs hk
  obtain⟨o,r',rfl,ho,hr'⟩:=cops_split hcc
  obtain⟨s1,s2,s3,s4⟩:=compileOper_spec ho
  have hw:=wanted_ok hs.env s4 hg
  simp only[wpListIn,hw,if_true]
  obtain⟨func,code,h1,h2,t1,t2,t3,_⟩:=(hT.fn f fn hf).ex
  have hcond:∀ d Hn,vals R1 d Hn→(if closedL args then okRes d&&Hn.all closedOb else okFlat d&&Hn.all flatOb)=true∧after s e.dst args d Hn=some { s with env:=put s.env e.dst (lift1 s.H.length d),H:=s.H++Hn }:=fun d Hn hR=>by
   obtain⟨s',hs'⟩:=Option.isSome_iff_exists.1 (ha d Hn hR)
   obtain⟨k1,rfl⟩:=after_spec hs'
   exact⟨k1,hs'⟩
  have s1:=comp_callee s1 hc
  refine wp_callee hs s1 s3 hc t3 (R:=fun d H'=>∃ d0 Hn,vals R1 d0 Hn∧d=lift1 s.H.length d0∧H'=s.H++Hn) (fun vs hrl=>(pure_okR hs.hok hrl ihc fun d Hn hR=>(hcond d Hn hR).1).mono ?_) ?_
  ·rintro e w' ⟨v,c',d,Hn,he,hR,k1,k2,k3⟩
   exact⟨v,c',_,_,he,⟨d,Hn,hR,rfl,rfl⟩,k1,k2,k3⟩
  ·rintro d H' c' w' a' ⟨d0,Hn,hR,rfl,rfl⟩ hs' hst
   rw[← s2]at hs'
   exact ih d0 Hn _ hR (hcond d0 Hn hR).2 N A r' hr' ro n Q c' w' a' hro hs' (hk.mono hst (by simp))
 | @callF e r s f args fn R1 R hg hc hf hp h t ihc ih=>
  intro N A ops hcc ro n Q c w a hro hs hk
  obtain⟨o,r',rfl,ho,hr'⟩:=cops_split hcc
  obtain⟨s1,s2,s3,s4⟩:=compileOper_spec ho
  have hw:=wanted_ok hs.env s4 hg
  simp only[wpListIn,hw,if_true]
  obtain⟨func,code,h1,h2,t1,t2,t3,_⟩:=(hT.fn f fn hf).ex
  have s1:=comp_callee s1 hc
  refine wp_callee hs s1 s3 hc t3 (R:=fun d H'=>vals R1 d H'∧s.H.length≤H'.length) (fun vs hrl=>(ihc c w vs hs.hok hrl).mono ?_) ?_
  ·rintro e w' ⟨v,c',d,H',he,hR,hle,k1,k2,k3⟩
   exact⟨v,c',d,H',he,⟨hR,hle⟩,k1,k2,k3⟩
  ·rintro d H' c' w' a' ⟨hR,hle⟩ hs' hst
   rw[← s2]at hs'
   exact ih d H' hR N A r' hr' ro n Q c' w' a' hro hs' (hk.mono hst hle)
 | @callY e r s v args rf env0 Rd Ra Rb R hg hc hv hR hl ha hn hb hm t iha ihb iht=>
  intro N A ops hcc ro n Q c w a hro hs hk
  obtain⟨o,r',rfl,ho,hr'⟩:=cops_split hcc
  obtain⟨s1,s2,s3,s4⟩:=compileOper_spec ho
  have hw:=wanted_ok hs.env s4 hg
  simp only[wpListIn,hw,if_true]
  obtain⟨M,ps,ac,bc,hRT,hps,hlt,hca,hcb⟩:=(hT.round rf Rd hR).ex
  rw[← hps]at hl iha hlt
  have s1:=s1.resolve_right fun h2=>by
   have:=compileSp_special h2
   unfold yieldOf at hc
   split at hc
   ·rename_i heq;rw[heq]at this;cases this
   ·cases hc
  refine wp_yield hs s1 s3 hc hv hRT (by simpa using hl) (fun p hp=>by simpa using List.all_eq_true.1 hlt p hp) (Ra:=outs Ra) (Rb:=outs Rb) ?_ hn ?_ hm ?_
  ·exact fun ro n Q c w a hs' hk'=>iha M ac hca ro n Q c w a (fun h=>by cases h) hs' hk'
  ·intro s1 env1 hRa hrnd hv1 ro n Q c w a hs' hk'
   have:=ihb s1 env1 hRa hv1 M bc hcb ro n Q c w a (fun h=>by simp[hrnd]at h) hs'
   simp only[List.length_set,hrnd]at this
   exact this hk'
  ·intro q env2 c' w' a' hRb hv2 hle hs' hst
   rw[← s2]at hs'
   exact iht q env2 hRb hv2 N A r' hr' ro n Q c' w' a' hro hs' (hk.mono hst (by simpa using hle))
 | @next e r s x v m since seen kk es R hg hop hx hv hm hsn h0 h1 ih0 ih1=>
  intro N A ops hcc ro n Q c w a hro hs hk
  obtain⟨o,r',rfl,ho,hr'⟩:=cops_split hcc
  obtain⟨s1,s2,s3,s4⟩:=compileOper_spec ho
  have hw:=wanted_ok hs.env s4 hg
  simp only[wpListIn,hw,if_true]
  rw[hop]at s1
  have s1:=s1.resolve_left fun h2=>plain_not_next h2
  refine wp_next hs s1 s3 hx hv hm hsn ?_ ?_
  ·intro hall c' w' a' hs' hst
   rw[← s2]at hs'
   exact ih0 hall N A r' hr' ro n Q c' w' a' hro hs' (hk.mono hst (Nat.le_refl _))
  ·intro i k d hi hni c' w' a' hs' hst
   rw[← s2]at hs'
   exact ih1 i k d hi hni N A r' hr' ro n Q c' w' a' hro hs' (hk.mono hst (by simp))
 | @skip s R h=>
  intro N code hc ro n Q c w a hro hok hk
  cases hc
  exact wpIn_skip (hk _ c w a h rfl (Nat.le_refl _) hok (Step.refl _ _ _ _))
 | @cops l s R h ih=>
  intro N code hc ro n Q c w a hro hok hk
  cases hc with
  | ops h=>exact wpIn_region_list (ih N _ _ h ro n Q c w a hro hok hk)
 | @seq a b s R1 R h k hs ih1 ih2=>
  intro N code hc ro n Q c w a hro hok hk
  cases hc with
  | seq h1 h2=>
   refine wpIn_seq (ih1 N _ h1 ro n _ c w a hro hok fun o c' w' a' hR hrnd hle hok' hst=>?_)
   cases o with
   | norm s'=>
    have hrnd':s'.rnd=s.rnd:=hrnd
    refine ih2 s' hR N _ h2 ro n Q c' w' a' (fun h=>hro (by rw[← hrnd'];exact h)) hok' ?_
    rw[hrnd']
    exact hk.mono hst hle
   | exit id s'=>exact hk _ c' w' a' (hs _ hR rfl) hrnd hle hok' hst
   | ret s'=>exact hk _ c' w' a' (hs _ hR rfl) hrnd hle hok' hst
 | @cond c a b s x R hc h ih=>
  intro N code hcc ro n Q c w a hro hok hk
  cases hcc with
  | @cond cx ca cb _ _ _ hx h1 h2=>
   have hr:=cX_ok hok.hok hok.env hx
   rw[hc]at hr
   have he:a.eval cx = .bool x:=by
    generalize a.eval cx=u at hr
    cases hr;rfl
   refine wpIn_cond he ?_
   cases x
   ·exact ih N _ h2 ro n Q c w a hro hok hk
   ·exact ih N _ h1 ro n Q c w a hro hok hk
 | @block id live a s R1 R h k ih=>
  have hlen:∀ s':St,s.H.length≤s'.H.length→s.H.length≤(cut s.H.length live s').H.length:=by
   intro s' h1
   unfold cut
   split
   ·exact h1
   ·dsimp only;rw[shedH_len];simp[keepOf]
  have hrndc:∀ s':St,(cut s.H.length live s').rnd=s'.rnd:=by
   intro s'
   unfold cut
   split<;>rfl
  intro N code hc ro n Q c w a hro hok hk
  cases hc with
  | block h1=>
   refine wpIn_block (ih N _ h1 ro n _ c w a hro hok fun o c' w' a' hR hrnd hle hok' hst=>?_)
   have hk1:=k o hR
   cases o with
   | norm s'=>
    obtain⟨c2,hok2,hst2,_⟩:=cut_ok hok' hle live
    exact hk (.norm (cut s.H.length live s')) c2 w' a' hk1 ((hrndc s').trans hrnd) (hlen s' hle) hok2 (hst.trans hst2 (Nat.le_refl _))
   | exit id' s'=>
    by_cases hid:id'=id
    ·subst hid
     obtain⟨c2,hok2,hst2,_⟩:=cut_ok hok' hle live
     simp only[blk,if_true]at hk1
     have:=hk (.norm (cut s.H.length live s')) c2 w' a' hk1 ((hrndc s').trans hrnd) (hlen s' hle) hok2 (hst.trans hst2 (Nat.le_refl _))
     simp only[Out.ex,Exit.inBlock,if_true]at this ⊢
     exact this
    ·simp only[blk,if_neg hid]at hk1
     have:=hk _ c' w' a' hk1 hrnd hle hok' hst
     simp only[Out.ex,Exit.inBlock,if_neg hid]at this ⊢
     exact this
   | ret s'=>exact hk _ c' w' a' hk1 hrnd hle hok' hst
 | @trNil s R hR=>
  exact⟨[],s,hR,Nat.le_refl _,rfl,rfl,fun K k0 hK=>⟨[],rfl,rfl,rfl,.nil⟩⟩
 | @trOp e r s d δ R1 R hg h t k ih=>
  obtain⟨rs,s',hR1,i1,i2,i4,i3⟩:=ih
  refine⟨_,s',k _ _ hR1,Nat.le_trans (app_len δ s.H) i1,i2,i4,fun K k0 hK=>?_⟩
  obtain⟨items,e1,e2,e3,hT'⟩:=i3 K (k0+1) hK
  obtain⟨a1,a2⟩:=app_room (aopO_safe h) K (Nat.le_trans i1 hK)
  refine⟨⟨k0,e,s.H.length,⟨fpR s.env.get s.H e.op,fpW s.H.length δ⟩⟩::items,by simp[e1],by simp[e2],by simp[e3,List.range'_succ],?_⟩
  have hE:Ef (CC P G) s.env.get (s.H++room (K-s.H.length)) e s.H.length ⟨fpR s.env.get s.H e.op,fpW s.H.length δ⟩ d δ:=by
   have:=Ef.op (C:=CC P G) (f:=s.env.get) (H:=s.H++room (K-s.H.length)) (e:=e) (n:=s.H.length) hg (by rw[aopO_room];exact h) a2
   rwa [fpR_room]at this
  refine .cons hE ?_
  rw[a1]
  have hp:(put s.env e.dst d).get=updF s.env.get e.dst d:=put_get _ _ _
  rw[← hp]
  exact hT'
 | @trOff e r s R1 R hg t k ih=>
  obtain⟨rs,s',hR1,i1,i2,i4,i3⟩:=ih
  refine⟨_,s',k _ _ hR1,i1,i2,i4,fun K k0 hK=>?_⟩
  obtain⟨items,e1,e2,e3,hT'⟩:=i3 K (k0+1) hK
  refine⟨⟨k0,e,0,⟨[],[]⟩⟩::items,by simp[e1],by simp[e2],by simp[e3,List.range'_succ],.cons (.off hg) ?_⟩
  have hp:(put s.env e.dst (.val undef)).get=updF s.env.get e.dst (.val undef):=put_get _ _ _
  rw[← hp]
  exact hT'
 | @trCall e r s f args fn d R0 R1 R hg hc hf hp h h0 hr t k ihc ih=>
  obtain⟨rs,s',hR1,i1,i2,i4,i3⟩:=ih
  refine⟨_,s',k _ _ hR1,i1,i2,i4,fun K k0 hK=>?_⟩
  obtain⟨items,e1,e2,e3,hT'⟩:=i3 K (k0+1) hK
  refine⟨⟨k0,e,0,⟨fpR s.env.get s.H e.op,[]⟩⟩::items,by simp[e1],by simp[e2],by simp[e3,List.range'_succ],?_⟩
  obtain⟨func,code,h1,h2,t1,t2,t3,_⟩:=(hT.fn f fn hf).ex
  have hE:Ef (CC P G) s.env.get (s.H++room (K-s.H.length)) e 0 ⟨fpR s.env.get s.H e.op,[]⟩ d .no:=by
   have e0:args.map (shed (fun _=>none) (s.H++room (K-s.H.length)) 40)=args.map (shed (fun _=>none) s.H 40):=List.map_congr_left fun d _=>(refs_room 40 d).2
   have:=Ef.call (C:=CC P G) (f:=s.env.get) (H:=s.H++room (K-s.H.length)) (e:=e) (n:=0) hg hc (by rw[e0];exact⟨t3,ihc.one h0⟩) hr
   rwa [fpR_room]at this
  refine .cons hE ?_
  have hp:(put s.env e.dst d).get=updF s.env.get e.dst d:=put_get _ _ _
  rw[← hp]
  exact hT'
 | @trCallN e r s f ars args fn d ob R0 R1 R hg hop ha hf hp h h0 hr t k ihc ih=>
  obtain⟨rs,s',hR1,i1,i2,i4,i3⟩:=ih
  have hle:s.H.length≤(s.H ++ [ob]).length:=by simp
  refine⟨_,s',k _ _ hR1,Nat.le_trans hle i1,i2,i4,fun K k0 hK=>?_⟩
  obtain⟨items,e1,e2,e3,hT'⟩:=i3 K (k0+1) hK
  have hsafe:Safe s.H (.new ob):=trivial
  obtain⟨a1,a2⟩:=app_room (δ:=.new ob) hsafe K (by have:(s.H ++ [ob]).length≤K:=Nat.le_trans i1 hK;simpa[Dl.app,Al.last]using this)
  refine⟨⟨k0,e,s.H.length,⟨fpR s.env.get s.H e.op,[(s.H.length,none)]⟩⟩::items,by simp[e1],by simp[e2],by simp[e3,List.range'_succ],?_⟩
  obtain⟨func,code,h1,h2,t1,t2,t3,_⟩:=(hT.fn f fn hf).ex
  have hE:Ef (CC P G) s.env.get (s.H++room (K-s.H.length)) e s.H.length ⟨fpR s.env.get s.H e.op,[(s.H.length,none)]⟩ (lift1 s.H.length d) (.new ob):=by
   have e0:args.map (shed (fun _=>none) (s.H++room (K-s.H.length)) 40)=args.map (shed (fun _=>none) s.H 40):=List.map_congr_left fun d _=>(refs_room 40 d).2
   have:=Ef.callN (C:=CC P G) (f:=s.env.get) (H:=s.H++room (K-s.H.length)) (e:=e) (n:=s.H.length) hg hop ha (by rw[e0];exact⟨t3,ihc.one h0⟩) hr a2
   rwa [fpR_room]at this
  refine .cons hE ?_
  have a1':appH s.H.length (.new ob) (s.H++room (K-s.H.length))=(s.H ++ [ob])++room (K-(s.H ++ [ob]).length):=a1
  show Tx (CC P G) (updF s.env.get e.dst (lift1 s.H.length d)) (appH s.H.length (.new ob) (s.H++room (K-s.H.length))) items _ _
  rw[a1']
  have hp:(put s.env e.dst (lift1 s.H.length d)).get=updF s.env.get e.dst (lift1 s.H.length d):=put_get _ _ _
  rw[← hp]
  exact hT'
 | @trCallZ e r s f ars args fn d v R0 R1 R hg hop ha hf hp hS hv hrow hcl h h0 hr t k ihc ih=>
  obtain⟨rs,s',hR1,i1,i2,i4,i3⟩:=ih
  have hle:s.H.length≤(s.H.set v .dead).length:=by simp
  refine⟨_,s',k _ _ hR1,Nat.le_trans hle i1,i2,i4,fun K k0 hK=>?_⟩
  obtain⟨items,e1,e2,e3,hT'⟩:=i3 K (k0+1) hK
  have hvl:v<s.H.length:=by
   unfold rowsOf at hrow
   split at hrow
   ·rename_i q;exact(List.getElem?_eq_some_iff.1 q).1
   ·cases hrow
  have hsafe:Safe s.H (.obj v .dead):=hvl
  obtain⟨a1,a2⟩:=app_room (δ:=.obj v .dead) hsafe K (by have:(s.H.set v .dead).length≤K:=Nat.le_trans i1 hK;simpa[Dl.app]using this)
  refine⟨⟨k0,e,0,⟨fpR s.env.get s.H e.op,[(v,none)]⟩⟩::items,by simp[e1],by simp[e2],by simp[e3,List.range'_succ],?_⟩
  obtain⟨func,code,h1,h2,t1,t2,t3,_⟩:=(hT.fn f fn hf).ex
  have hE:Ef (CC P G) s.env.get (s.H++room (K-s.H.length)) e 0 ⟨fpR s.env.get s.H e.op,[(v,none)]⟩ d (.obj v .dead):=by
   have e0:args.map (shed (fun _=>none) (s.H++room (K-s.H.length)) 40)=args.map (shed (fun _=>none) s.H 40):=List.map_congr_left fun d _=>(refs_room 40 d).2
   have e4:args.map (refsD (s.H++room (K-s.H.length)) 40)=args.map (refsD s.H 40):=List.map_congr_left fun d _=>(refs_room 40 d).1
   have:=Ef.callZ (C:=CC P G) (f:=s.env.get) (H:=s.H++room (K-s.H.length)) (e:=e) (n:=0) (v:=v) hg hop ha (by rw[e4];exact hS) (by rw[e4];exact hv) (by rw[rows_room];exact hrow) (by rw[e0];exact⟨t3,ihc.one h0⟩) (by rw[e0];exact hcl) hr
   rwa [fpR_room]at this
  refine .cons hE ?_
  have a1':appH 0 (.obj v .dead) (s.H++room (K-s.H.length))=(s.H.set v .dead)++room (K-(s.H.set v .dead).length):=a1
  show Tx (CC P G) (updF s.env.get e.dst d) (appH 0 (.obj v .dead) (s.H++room (K-s.H.length))) items _ _
  rw[a1']
  have hp:(put s.env e.dst d).get=updF s.env.get e.dst d:=put_get _ _ _
  rw[← hp]
  exact hT'
 | @draw prs l s R1 R t hp ih=>
  obtain⟨rs,s',hR1,i1,i2,i4,i3⟩:=ih
  obtain⟨hp,hRo⟩:=hp rs s' hR1
  intro N code hc ro n Q c w a hro hok hk
  cases hc with
  | @draw _ _ id A ord hcomp he ho hpr=>
   obtain⟨items,e1,e2,e3,hTx⟩:=i3 s'.H.length 0 (Nat.le_refl _)
   have hlen:items.length=l.length:=by rw[← e1];simp
   have hcl:∀ (ops:List Oper) (l:List IEnt),compileOpers P G N A ops=some l→ops.length=l.length∧∀ (i:Nat) (o:Oper) (e:IEnt),ops[i]? = some o→l[i]? = some e→compileOper P G N A o=some e:=by
    intro ops
    induction ops with
    | nil=>intro l h;cases h;exact⟨rfl,fun i o e h=>by simp at h⟩
    | cons o r ihr=>
     intro l h
     obtain⟨e,l',rfl,h1,h2⟩:=cops_cons h
     obtain⟨q1,q2⟩:=ihr l' h2
     refine⟨by simp[q1],fun i o' e' ho he=>?_⟩
     cases i with
     | zero=>simp at ho he;subst ho;subst he;exact h1
     | succ i=>exact q2 i o' e' (by simpa using ho) (by simpa using he)
   obtain⟨q1,q2⟩:=hcl _ _ hcomp
   have hA:A.size=l.length:=by rw[← q1];simp
   have hget:∀ (i:Nat) (it:TItem),items[i]? = some it→it.k=i∧l[i]? = some it.e∧rs[i]? = some it.rc:=by
    intro i it hi
    have hlt:=(List.getElem?_eq_some_iff.1 hi).1
    refine⟨?_,by rw[← e1];simp[hi],by rw[← e2];simp[hi]⟩
    have:(items.map (·.k))[i]? = some it.k:=by simp[hi]
    rw[e3,List.getElem?_range' (by omega)]at this
    simpa using this.symm
   refine wpIn_region_any hM ?_
   have hs0:HOK G c s.H { w with drawn:=w.drawn+1 }:=hok.hok.grew (Grew.drew w)
   have hst0:Step s.H.length c s.H w c s.H { w with drawn:=w.drawn+1 }:=step_grew _ (Grew.drew w)
   have hsx:SX G N c { w with drawn:=w.drawn+1 } s.env.get (s.H++room (s'.H.length-s.H.length)) s.marks a:=
    ⟨room_ok hs0 _,RepEnv.carry (fun _ _ h=>h.step0 hok.hok.toHeapOK hst0) hok.env,hok.size,hok.marks⟩
   refine any_ok (C:=CC P G) (fun g args d Hn h=>h) he ho A.size items _ c _ _ _ a (by omega) ?_ hsx hTx ?_ ?_ fun c' w' a' hs' hst=>?_
   ·refine⟨by simp,fun j hj=>?_,?_,fun it hit=>?_,fun i hi hl=>?_⟩
    ·refine⟨fun _=>⟨items[j]'(by omega),List.getElem_mem _,(hget j _ (List.getElem?_eq_getElem _)).1⟩,fun _=>by simp[hj]⟩
    ·rw[List.pairwise_iff_getElem]
     intro i j hi hj hij
     rw[(hget i _ (List.getElem?_eq_getElem hi)).1,(hget j _ (List.getElem?_eq_getElem hj)).1]
     exact hij
    ·obtain⟨i,hi⟩:=List.mem_iff_getElem?.1 hit
     have hlt:=(List.getElem?_eq_some_iff.1 hi).1
     rw[(hget i it hi).1];omega
    ·simp[hi]at hl
   ·intro it hit
    obtain⟨i,hi⟩:=List.mem_iff_getElem?.1 hit
    have hlt:=(List.getElem?_eq_some_iff.1 hi).1
    obtain⟨k1,k2,k3⟩:=hget i it hi
    refine⟨A[i]'(by omega),by rw[k1];simp,q2 i _ _ (by simp) k2⟩
   ·intro p hp' q hq hpq
    obtain⟨i,hi⟩:=List.mem_iff_getElem?.1 hp'
    obtain⟨j,hj⟩:=List.mem_iff_getElem?.1 hq
    obtain⟨p1,p2,p3⟩:=hget i p hi
    obtain⟨q1',q2',q3⟩:=hget j q hj
    rw[p1,q1']at hpq ⊢
    have hlt:=(List.getElem?_eq_some_iff.1 hj).1
    have:=List.all_eq_true.1 (List.all_eq_true.1 hpr j (List.mem_range.2 (by omega))) i (List.mem_range.2 hpq)
    simp only[p2,q2',Bool.or_eq_true,Bool.and_eq_true,List.contains_iff_mem]at this
    rcases this with h|⟨h1,h2⟩
    ·exact .inl h
    ·refine .inr ⟨h1,?_⟩
     rcases h2 with h2|h2
     ·have:=List.all_eq_true.1 hp (i,j) h2
      simp only[p3,q3]at this
      exact this
     ·obtain⟨_,_,_,_,E1⟩:=hTx.each p hp'
      obtain⟨_,_,_,_,E2⟩:=hTx.each q hq
      exact still_rc E1 E2 h2
   ·simp only[Nat.sub_self,room,List.replicate_zero,List.append_nil]at hs' hst
    refine hk _ c' w' a' hRo i4 i1 ⟨hs'.hok,hs'.env,hs'.size,by show MOK c' s'.marks _;rw[i2];exact hs'.marks⟩ ?_
    have h1:=hst0.trans (room_step (c:=c) (w:={ w with drawn:=w.drawn+1 }) (H:=s.H) (s'.H.length-s.H.length) s.H.length) (Nat.le_refl _)
    exact h1.trans hst (by simp)
 | @drawL prs l es s R1 R t hp k ih ihk=>
  obtain⟨rs,s',hR1,i1,i2,i4,i3⟩:=ih
  have hp:=hp rs s' hR1
  have ihk:=ihk rs s' hR1
  intro N code hc ro n Q c w a hro hok hk
  cases hc with
  | @drawL _ _ _ id A ord hcomp he ho hpr hla=>
   obtain⟨items,e1,e2,e3,hTx⟩:=i3 s'.H.length 0 (Nat.le_refl _)
   have hlen:items.length=l.length:=by rw[← e1];simp
   obtain⟨o1,o2,hAo,c1,c2⟩:=cops_append hcomp
   obtain⟨q1,q2⟩:=cops_get c1
   obtain⟨q3,_⟩:=cops_get c2
   have hA:A.size=l.length+es.length:=by rw[← Array.length_toList,hAo,List.length_append,q1,q3]
   have hA1:∀ i,i<l.length→A[i]? = o1[i]? := fun i hi=>by
    rw[← Array.getElem?_toList,hAo,List.getElem?_append_left (by omega)]
   have hA2:∀ i,A[l.length+i]? = o2[i]? := fun i=>by
    rw[← Array.getElem?_toList,hAo,List.getElem?_append_right (by omega)]
    congr 1;omega
   have hget:∀ (i:Nat) (it:TItem),items[i]? = some it→it.k=i∧l[i]? = some it.e∧rs[i]? = some it.rc∧i<l.length:=by
    intro i it hi
    have hlt:=(List.getElem?_eq_some_iff.1 hi).1
    refine⟨?_,by rw[← e1];simp[hi],by rw[← e2];simp[hi],by omega⟩
    have:(items.map (·.k))[i]? = some it.k:=by simp[hi]
    rw[e3,List.getElem?_range' (by omega)]at this
    simpa using this.symm
   refine wpIn_region_any hM ?_
   have hs0:HOK G c s.H { w with drawn:=w.drawn+1 }:=hok.hok.grew (Grew.drew w)
   have hst0:Step s.H.length c s.H w c s.H { w with drawn:=w.drawn+1 }:=step_grew _ (Grew.drew w)
   have hsx:SX G N c { w with drawn:=w.drawn+1 } s.env.get (s.H++room (s'.H.length-s.H.length)) s.marks a:=
    ⟨room_ok hs0 _,RepEnv.carry (fun _ _ h=>h.step0 hok.hok.toHeapOK hst0) hok.env,hok.size,hok.marks⟩
   have hlk:∀ q∈(es.zipIdx l.length).map (fun p=>(⟨p.2,p.1,0,⟨[],[]⟩⟩:TItem)),l.length≤q.k∧q.k<l.length+es.length:=fun q hq=>by
    obtain⟨p,hp',rfl⟩:=List.mem_map.1 hq
    obtain⟨x,y⟩:=p
    have:=List.mem_zipIdx hp'
    exact⟨this.1,by show y<_;omega⟩
   have hlen2:((es.zipIdx l.length).map (fun p=>(⟨p.2,p.1,0,⟨[],[]⟩⟩:TItem))).length=es.length:=by simp
   rw[show A.size=items.length+((es.zipIdx l.length).map (fun p=>(⟨p.2,p.1,0,⟨[],[]⟩⟩:TItem))).length by rw[hlen2];omega]
   refine any_okL (C:=CC P G) (fun g args d Hn h=>h) he ho (lasts:=(es.zipIdx l.length).map fun p=>⟨p.2,p.1,0,⟨[],[]⟩⟩) (ops:=o2) (fun q hq k hk=>hla q.k (hlk q hq).1 (by simp;exact(hlk q hq).2) k hk) ?_ items.length items _ c _ _ _ a rfl ?_ hsx hTx ?_ ?_ fun c' w' a' hs' hst=>?_
   ·refine List.ext_getElem? fun i=>?_
    simp only[List.map_map,List.getElem?_map,List.getElem?_zipIdx]
    cases h:es[i]? with
    | none=>
     have:es.length≤i:=by simpa using h
     simp[List.getElem?_eq_none (l:=o2) (i:=i) (by omega)]
    | some e=>
     have:=(List.getElem?_eq_some_iff.1 h).1
     simp[hA2,List.getElem?_eq_getElem (l:=o2) (i:=i) (by omega)]
   ·refine⟨by simp;omega,fun j hj=>?_,?_,fun it hit=>?_,fun i hi hl=>?_⟩
    ·refine⟨fun _=>?_,fun _=>by rw[hlen2];simp[show j<items.length+es.length by omega]⟩
     by_cases hjl:j<l.length
     ·exact⟨items[j]'(by omega),List.mem_append_left _ (List.getElem_mem _),(hget j _ (List.getElem?_eq_getElem _)).1⟩
     ·refine⟨⟨j,es[j-l.length]'(by omega),0,⟨[],[]⟩⟩,List.mem_append_right _ (List.mem_map.2 ⟨(es[j-l.length]'(by omega),j),?_,rfl⟩),rfl⟩
      rw[List.mem_zipIdx_iff_le_and_getElem?_sub]
      exact⟨by omega,by simp⟩
    ·refine List.pairwise_append.2 ⟨?_,?_,fun p hp' q hq=>?_⟩
     ·rw[List.pairwise_iff_getElem]
      intro i j hi hj hij
      rw[(hget i _ (List.getElem?_eq_getElem hi)).1,(hget j _ (List.getElem?_eq_getElem hj)).1]
      exact hij
     ·rw[List.pairwise_iff_getElem]
      intro i j hi hj hij
      simp
      omega
     ·obtain⟨i,hi⟩:=List.mem_iff_getElem?.1 hp'
      have h1:=hget i p hi
      have h2:=hlk q hq
      omega
    ·rcases List.mem_append.1 hit with hit|hit
     ·obtain⟨i,hi⟩:=List.mem_iff_getElem?.1 hit
      have:=hget i it hi
      omega
     ·have:=hlk it hit;omega
    ·rw[hlen2]at hl
     have:i<items.length+es.length:=by omega
     simp[this]at hl
   ·intro it hit
    obtain⟨i,hi⟩:=List.mem_iff_getElem?.1 hit
    obtain⟨k1,k2,k3,k4⟩:=hget i it hi
    have h1:o1[i]? = some (o1[i]'(by omega)):=List.getElem?_eq_getElem _
    exact⟨o1[i]'(by omega),by rw[k1,hA1 i k4,h1],q2 i _ _ h1 k2⟩
   ·intro p hp' q hq hpq
    obtain⟨i,hi⟩:=List.mem_iff_getElem?.1 hp'
    obtain⟨j,hj⟩:=List.mem_iff_getElem?.1 hq
    obtain⟨p1,p2,p3,p4⟩:=hget i p hi
    obtain⟨q1',q2',q3,q4⟩:=hget j q hj
    rw[p1,q1']at hpq ⊢
    have:=List.all_eq_true.1 (List.all_eq_true.1 hpr j (List.mem_range.2 (by simp;omega))) i (List.mem_range.2 hpq)
    simp only[List.getElem?_append_left p4,List.getElem?_append_left q4,p2,q2',Bool.or_eq_true,Bool.and_eq_true,List.contains_iff_mem]at this
    rcases this with h|⟨h1,h2⟩
    ·exact .inl h
    ·refine .inr ⟨h1,?_⟩
     rcases h2 with h2|h2
     ·have:=List.all_eq_true.1 hp (i,j) h2
      simp only[p3,q3]at this
      exact this
     ·obtain⟨_,_,_,_,E1⟩:=hTx.each p hp'
      obtain⟨_,_,_,_,E2⟩:=hTx.each q hq
      exact still_rc E1 E2 h2
   ·simp only[Nat.sub_self,room,List.replicate_zero,List.append_nil]at hs' hst
    have h1:=hst0.trans (room_step (c:=c) (w:={ w with drawn:=w.drawn+1 }) (H:=s.H) (s'.H.length-s.H.length) s.H.length) (Nat.le_refl _)
    have h2:=h1.trans hst (by simp)
    exact ihk N A o2 c2 ro n Q c' w' a' (by rw[i4];exact hro) ⟨hs'.hok,hs'.env,hs'.size,by show MOK c' s'.marks _;rw[i2];exact hs'.marks⟩ (by rw[i4];exact hk.mono h2 i1)
 | @loop live a s R h ih=>
  intro N code hc ro n Q c w a hro hok hk
  cases hc with
  | loop h1=>exact wpIn_loopIn (ih (Nat.le_refl _) N _ h1 ro n Q c w a hro ⟨hok.hok,env_forget hok.env live,hok.size,hok.marks⟩ hk)
 | @loopI n0 live a s R1 R h k hs ih1 ih2=>
  intro hn N code hc ro n Q c w a hro hok hk
  refine loopIn_of (ih1 N _ hc ro n _ c w a hro hok fun o c' w' a' hR hrnd hle hok' hst=>?_)
  cases o with
  | norm s'=>
   have hle':n0≤s'.H.length:=Nat.le_trans hn hle
   have hcut:n0≤(cut n0 live s').H.length:=by
    unfold cut
    split
    ·exact hle'
    ·dsimp only;rw[shedH_len];simp[keepOf]
   have hrc:(cut n0 live s').rnd=s.rnd:=by
    have hrnd':s'.rnd=s.rnd:=hrnd
    unfold cut
    split<;>exact hrnd'
   obtain⟨c2,hok2,hst2,_⟩:=cut_ok hok' hle' live
   refine ih2 s' hR hcut N _ hc ro n Q c2 w' a' (fun h=>hro (by rw[← hrc];exact h)) hok2 ?_
   rw[hrc]
   exact hk.mono ((hst.weaken hn).trans hst2 (Nat.le_refl _)) (Nat.le_refl _)
  | exit id s'=>exact hk _ c' w' a' (hs _ hR rfl) hrnd (Nat.le_trans hn hle) hok' (hst.weaken hn)
  | ret s'=>exact hk _ c' w' a' (hs _ hR rfl) hrnd (Nat.le_trans hn hle) hok' (hst.weaken hn)
 | @rangeF rf live x s f first cap fn R1 R hrnd hx hf hp h k ih=>
  intro N code hc ro n Q c w a hro hok hk
  have hro':=hro hrnd
  subst hro'
  cases hc with
  | rangeF hx' hRT=>
   obtain⟨func,code,h1,h2,t1,t2,t3,_⟩:=(hT.fn f fn hf).ex
   exact wp_rangeF hok hx' hx t3 hRT (live:=live) (R1:=vals R1) (R:=outs R) ih k hk
 | @exit id s R h=>
  intro N code hc ro n Q c w a hro hok hk
  cases hc
  exact wpIn_exit (hk _ c w a h rfl (Nat.le_refl _) hok (Step.refl _ _ _ _))
 | @ret s R h=>
  intro N code hc ro n Q c w a hro hok hk
  cases hc
  exact wpIn_ret (hk _ c w a h rfl (Nat.le_refl _) hok (Step.refl _ _ _ _))
 | @call f args H fn R1 R own hf hl h k ih=>
  intro c w vs hok hrl
  obtain⟨func,code,hs,hs',t1,t2,t3,t7,t4,t5,t6⟩:=(hT.fn f fn hf).ex
  have hrc:=rcOK_of hT.rt t1 t2 t7
  rw[t5]at hrc
  refine callsIn_wide (n:=0) |>.1 (callsIn_of_wp_marks (F:=FW none) t1 t2 trivial (ih fn.ntmps code (cC_rel hrc t4) none 0 _ c w _ (fun _=>rfl) ⟨hok,env_enter hrl _,?_,.nil⟩ ?_))
  ·simp;omega
  ·intro o c' w' a' hR hrnd hle hs2 hst
   obtain⟨d,H',hfin,hRv⟩:=k o hR
   have main:∀ s:St,o.st=s→∀ H1,kill s.marks s.H=some H1→∀ d0,AL.results fn { s with H:=H1 }=some d0→leave own H.length H1 d0=(d,H') →
     LeavesInM (FW none) 0 P func a'.tmps (fun e w'=>∃ v c' d H',e = .returned v∧vals R d H'∧H.length≤H'.length∧HOK G c' H' w'∧Rep c' w' v d∧Step H.length c H w c' H' w') a'.defers .returning w':=by
    rintro s rfl H1 hkill d0 hres hleave
    refine leaves_marks hs2.marks hs2.hok hkill fun w1 q1 q2 q3=>?_
    have hs3:SOK G fn.ntmps c' w1 { o.st with H:=H1,marks:=[] } { a' with defers:=[] }:=⟨q1,fun j=>(hs2.env j).step0 hs2.hok.toHeapOK q2,hs2.size,.nil⟩
    obtain⟨v,hv,hvr⟩:=results_ok hs3 t6 (d:=d0) (by rw[← hres];exact results_marks { o.st with H:=H1 } [])
    have hle1:H.length≤H1.length:=by rw[q3];exact hle
    obtain⟨c2,k1,k2,k3,k4⟩:=leave_ok q1 hle1 own hvr
    rw[hleave]at k1 k2 k3 k4
    exact⟨v,hv,v,c2,d,H',rfl,hRv,k4,k1,k2,(hst.trans q2 hle).trans k3 (Nat.le_refl _)⟩
   have hfs:∀ s:St,finish fn own H.length (.norm s)=some (d,H')→∃ H1,kill s.marks s.H=some H1∧∃ d0,AL.results fn { s with H:=H1 }=some d0∧leave own H.length H1 d0=(d,H'):=by
    intro s hf
    simp only[finish]at hf
    split at hf
    ·rename_i H1 hk1
     split at hf
     ·rename_i d0 hd0
      exact⟨H1,hk1,d0,hd0,Option.some.inj hf⟩
     ·cases hf
    ·cases hf
   cases o with
   | norm s=>
    obtain⟨H1,q1,d0,q2,q3⟩:=hfs s hfin
    exact main s rfl H1 q1 d0 q2 q3
   | ret s=>
    obtain⟨H1,q1,d0,q2,q3⟩:=hfs s hfin
    exact main s rfl H1 q1 d0 q2 q3
   | exit id s=>cases hfin
end
end Go.AL
namespace Go.AL
open Go
def eqV:Value→Value→Bool
 | .int k a,.int k' b=>decide (k=k')&&decide (a=b)
 | .bool a,.bool b=>a == b
 | .string a,.string b=>decide (a.data.toList=b.data.toList)
 | .nilFunc,.nilFunc=>true
 | .tuple a,.tuple b=>a.toList.isEmpty&&b.toList.isEmpty
 | _,_=>false
mutual
def eqD:D→D→Bool
 | .any,.any=>true
 | .val a,.val b=>eqV a b
 | .agg a,.agg b=>eqDL a b
 | .tup a,.tup b=>eqDL a b
 | .sl n a,.sl m b=>decide (n=m)&&eqDLL a b
 | .emp,.emp=>true
 | .osl a b c d e,.osl a' b' c' d' e'=>decide (a=a')&&decide (b=b')&&decide (c=c')&&decide (d=d')&&decide (e=e')
 | .ptr a b c,.ptr a' b' c'=>decide (a=a')&&decide (b=b')&&decide (c=c')
 | .fptr a,.fptr b=>eqDL a b
 | .omap a,.omap b=>decide (a=b)
 | .yld a,.yld b=>decide (a=b)
 | .fn (.func f) a b,.fn (.func f') a' b'=>decide (f=f')&&eqDL a a'&&eqDL b b'
 | _,_=>false
def eqDL:List D→List D→Bool
 | [],[]=>true
 | a::l,b::m=>eqD a b&&eqDL l m
 | _,_=>false
def eqDLL:List (List D)→List (List D)→Bool
 | [],[]=>true
 | a::l,b::m=>eqDL a b&&eqDLL l m
 | _,_=>false
end
def eqEnv:Env→Env→Bool
 | [],[]=>true
 | (i,a)::l,(j,b)::m=>decide (i=j)&&eqD a b&&eqEnv l m
 | _,_=>false
def eqEs:List (Value×D)→List (Value×D)→Bool
 | [],[]=>true
 | (i,a)::l,(j,b)::m=>eqV i j&&eqD a b&&eqEs l m
 | _,_=>false
def eqOb:Ob→Ob→Bool
 | .row t g a,.row t' g' b=>decide (t=t')&&decide (g=g')&&eqDL a b
 | .map k a,.map k' b=>decide (k=k')&&eqEs a b
 | .rcd r e s,.rcd r' e' s'=>decide (r=r')&&eqEnv e e'&&decide (s=s')
 | .siter a p,.siter b q=>decide (a.data.toList=b.data.toList)&&decide (p=q)
 | .miter m s l,.miter m' s' l'=>eqD m m'&&decide (s=s')&&decide (l=l')
 | .dfr,.dfr=>true
 | .dead,.dead=>true
 | .hole,.hole=>true
 | _,_=>false
def eqH:Heap→Heap→Bool
 | [],[]=>true
 | a::l,b::m=>eqOb a b&&eqH l m
 | _,_=>false
def eqSt(s t:St):Bool:=eqEnv s.env t.env&&eqH s.H t.H&&decide (s.marks=t.marks)&&(s.rnd == t.rnd)
def eqOut:Out→Out→Bool
 | .norm s,.norm t=>eqSt s t
 | .exit i s,.exit j t=>decide (i=j)&&eqSt s t
 | .ret s,.ret t=>eqSt s t
 | _,_=>false
def eqRes(a b:D×Heap):Bool:=eqD a.1 b.1&&eqH a.2 b.2
def once{α:Type}(eq:α→α→Bool):List α→List α
 | []=>[]
 | [a]=>[a]
 | a::l=>let m:=once eq l;if m.any (eq a)then m else a::m
def allL{α β:Type}:List α→(α→Option (List β))→Option (List β)
 | [],_=>some []
 | [a],f=>f a
 | a::l,f=>match f a,allL l f with
  | some x,some y=>some (x++y)
  | _,_=>none
abbrev CallF:=FuncId→List D→Heap→Option (List (D×Heap))
abbrev CodeF:=IR→St→Option (List Out)
def refsOf(s:St)(args:List D):List Nat:=dedup (args.map (refsD s.H 40)).flatten
def runCallP(cl:CallF)(e:IEnt)(f:FuncId)(s:St):Option (List St):=
 match calleeOf s.env.get e.op with
 | none=>none
 | some (f',args)=>if f'=f then(match cl f (args.map (shed (fun _=>none) s.H 40)) []with
  | some l=>allL l fun p=>match after s e.dst args p.1 p.2 with
   | some s'=>some [s']
   | none=>none
  | none=>none)else none
def runCall(T:Tab)(cl:CallF)(e:IEnt)(s:St):Option (List St):=
 match calleeOf s.env.get e.op with
 | none=>none
 | some (f,args)=>match T.fn f with
  | none=>none
  | some fn=>
   match fn.full with
   | true=>match cl f args s.H with
    | some l=>some (l.map fun p=>{ s with env:=put s.env e.dst p.1,H:=p.2 })
    | none=>none
   | false=>if fn.fz&&s.marks.isEmpty && !closedL args then runCallP cl e f (frz (refsOf s args) s)else runCallP cl e f s
def runRound(T:Tab)(rd:CodeF)(e:IEnt)(s:St)(v:Nat)(args:List D):Option (List St):=
 match s.H[v]? with
 | some (.rcd rf env0 .ready)=>match T.round rf with
  | some Rd=>if args.length=Rd.params.length then
    match rd Rd.a { env:=setParams Rd.params args env0,H:=s.H,rnd:=true }with
    | some la=>match allL la fun o=>match o with
      | .norm s1=>match s1.H[v]? with
       | some (.rcd rf1 env1 .ready)=>if rf1=rf then rd Rd.b { s1 with H:=s1.H.set v (.rcd rf env1 .busy) }else none
       | _=>none
      | _=>none with
     | some lb=>allL lb fun o=>match o.st.H[v]? with
      | some (.rcd rf2 env2 .busy)=>if rf2=rf then some [{ s with env:=put s.env e.dst (.b !o.stop),H:=o.st.H.set v (.rcd rf env2 o.rst) }]else none
      | _=>none
     | none=>none
    | none=>none
   else none
  | none=>none
 | _=>none
def runNext(e:IEnt)(s:St)(x:X):Option (List St):=
 match ev s.env.get x with
 | .ptr v 0 0=>match s.H[v]? with
  | some (.miter (.omap m) since seen)=>match s.H[m]? with
   | some (.map _ es)=>if es.length=since then
     let left:=(List.range es.length).filter fun i => !seen.contains i
     if left.isEmpty then some [{ s with env:=put s.env e.dst (.tup [.b false]) }]else
      some (left.filterMap fun i=>match es[i]? with
       | some (k,d)=>some { s with env:=put s.env e.dst (.tup [.b true,.val k,d]),H:=s.H.set v (.miter (.omap m) since (seen ++ [i])) }
       | none=>none)
    else none
   | _=>none
  | _=>none
 | _=>none
def runOps(T:Tab)(cl:CallF)(rd:CodeF):List IEnt→St→Option (List St)
 | [],s=>some [s]
 | e::r,s=>match guardOf s.env.get e.guard with
  | none=>none
  | some false=>runOps T cl rd r { s with env:=put s.env e.dst (.val undef) }
  | some true=>match aopO s.env.get s.H s.H.length e.op with
   | some (d,δ)=>runOps T cl rd r { s with env:=put s.env e.dst d,H:=δ.app s.H (Al.last s.H) }
   | none=>match sopO s.env.get s.H s.H.length e.op with
    | some (d,δ)=>runOps T cl rd r { s with env:=put s.env e.dst d,H:=δ.app s.H (Al.last s.H) }
    | none=>match e.op with
     | .nextM x=>match runNext e s x with
      | some l=>allL l fun s'=>runOps T cl rd r s'
      | none=>none
     | _=>match yieldOf s.env.get e.op with
      | some (v,args)=>match runRound T rd e s v args with
       | some l=>allL l fun s'=>runOps T cl rd r s'
       | none=>none
      | none=>match calleeOf s.env.get e.op with
       | none=>none
       | some _=>match runCall T cl e s with
        | some l=>allL l fun s'=>runOps T cl rd r s'
        | none=>none
def isN:IOp→Bool
 | .callN _ _=>true
 | _=>false
def runTrace(T:Tab)(cl:CallF)(st:Bool):List IEnt→St→Option (List Rc×St)
 | [],s=>some ([],s)
 | e::r,s=>match guardOf s.env.get e.guard with
  | none=>none
  | some false=>match runTrace T cl st r { s with env:=put s.env e.dst (.val undef) }with
   | some (rs,s')=>some (⟨[],[]⟩::rs,s')
   | none=>none
  | some true=>match aopO s.env.get s.H s.H.length e.op with
   | some (d,δ)=>match runTrace T cl st r { s with env:=put s.env e.dst d,H:=δ.app s.H (Al.last s.H) }with
    | some (rs,s')=>some (⟨fpR s.env.get s.H e.op,fpW s.H.length δ⟩::rs,s')
    | none=>none
   | none=>match calleeOf s.env.get e.op with
    | none=>none
    | some (f,args)=>match T.fn f with
     | none=>none
     | some fn=>if fn.full||(st&&fn.fz && !closedL args && !isN e.op)then none else match cl f (args.map (shed (fun _=>none) s.H 40)) []with
      | some [(d,[])]=>if (if closedL args then closed d else flat d)then(match runTrace T cl st r { s with env:=put s.env e.dst d }with
       | some (rs,s')=>some (⟨fpR s.env.get s.H e.op,[]⟩::rs,s')
       | none=>none)else(match e.op with
       | .callN _ _=>match (args.map (refsD s.H 40)).flatten with
        | v::l=>if (l.all fun u=>decide (u=v))&&(rowsOf s.H v).isSome&&closedL (args.map (shed (fun _=>none) s.H 40))&&closed d then(match runTrace T cl st r { s with env:=put s.env e.dst d,H:=s.H.set v .dead }with
         | some (rs,s')=>some (⟨fpR s.env.get s.H e.op,[(v,none)]⟩::rs,s')
         | none=>none)else none
        | []=>none
       | _=>none)
      | some [(d,[ob])]=>match e.op with
       | .callN _ _=>if (if closedL args then okRes d&&closedOb ob else okFlat d&&flatOb ob)then(match runTrace T cl st r { s with env:=put s.env e.dst (lift1 s.H.length d),H:=s.H ++ [ob] }with
        | some (rs,s')=>some (⟨fpR s.env.get s.H e.op,[(s.H.length,none)]⟩::rs,s')
        | none=>none)else none
       | _=>none
      | _=>none
def runCode(T:Tab)(cl:CallF)(lp:Nat→List Nat→IR→St→Option (List Out))(rd:CodeF):IR→St→Option (List Out)
 | .skip,s=>some [.norm s]
 | .ops l,s=>match runOps T cl rd l s with
  | some l=>some (l.map .norm)
  | none=>none
 | .draw prs l,s=>match runTrace T cl true l s with
  | some (rs,s')=>if prsOK prs rs then some [.norm s']else none
  | none=>if s.marks.isEmpty then(match runTrace T cl false l (frz (List.range s.H.length) s)with
   | some (rs,s')=>if prsOK prs rs then some [.norm s']else none
   | none=>none)else none
 | .drawL ..,_=>none
 | .seq a b,s=>match runCode T cl lp rd a s with
  | some l=>allL l fun o=>match o with
   | .norm s'=>runCode T cl lp rd b s'
   | o=>some [o]
  | none=>none
 | .cond c a b,s=>match ev s.env.get c with
  | .val (.bool true)=>runCode T cl lp rd a s
  | .val (.bool false)=>runCode T cl lp rd b s
  | _=>none
 | .block id live a,s=>match runCode T cl lp rd a s with
  | some l=>some (once eqOut (l.map (blk id s.H.length live)))
  | none=>none
 | .loop live a,s=>lp s.H.length live a { s with env:=forget live s.env }
 | .rangeF rf live x,s=>if s.rnd then none else match ev s.env.get x with
  | .fn (.func f) first cap=>match T.fn f with
   | some fn=>if fn.full then
     match cl f (first ++ [.yld (s.H.length+1)]++cap) (s.H ++ [.dfr,.rcd rf (forget live s.env) .ready])with
     | some l=>allL l fun p=>match p.2[s.H.length+1]? with
      | some (.rcd rf' _ st)=>if rf'=rf then(match rangeOut { s with H:=p.2.set (s.H.length+1) .dead,marks:=s.H.length::s.marks } st with
       | some o=>some [o]
       | none=>none)else none
      | _=>none
     | none=>none
    else none
   | none=>none
  | _=>none
 | .exit id,s=>some [.exit id s]
 | .ret,s=>some [.ret s]
 | .bad,_=>none
 | .fz _ _,_=>none
 | .fzO _ _ _,_=>none
abbrev Memo:=List (FuncId×List D×List (D×Heap))
def recall:Memo→FuncId→List D→Option (List (D×Heap))
 | [],_,_=>none
 | (g,ars,l)::M,f,args=>match Nat.beq g f with
  | true=>match eqDL ars args with
   | true=>some l
   | false=>recall M f args
  | false=>recall M f args
def known(M:Memo)(f:FuncId)(args:List D):Heap→Option (List (D×Heap))
 | []=>recall M f args
 | _=>none
mutual
def runLoop(T:Tab)(M:Memo):Nat→Nat→List Nat→IR→St→Option (List Out)
 | 0,_,_,_,_=>none
 | k+1,n,live,a,s=>match runCode T (run T M k) (runLoop T M k) (runRd T M k) a s with
  | some l=>allL l fun o=>match o with
   | .norm s'=>runLoop T M k n live a (cut n live s')
   | o=>some [o]
  | none=>none
def runRd(T:Tab)(M:Memo):Nat→CodeF
 | 0,_,_=>none
 | k+1,c,s=>runCode T (run T M k) (runLoop T M k) (runRd T M k) c s
def run(T:Tab)(M:Memo):Nat→CallF
 | 0,_,_,_=>none
 | k+1,f,args,H=>match known M f args H with
  | some l=>some l
  | none=>match T.fn f with
  | none=>none
  | some fn=>if args.length≤fn.ntmps then(match runCode T (run T M k) (runLoop T M k) (runRd T M k) fn.body { env:=mkEnv args,H:=H }with
   | some l=>match allL l fun o=>match finish fn fn.own H.length o with
     | some p=>some [p]
     | none=>none with
    | some ps=>some (once eqRes ps)
    | none=>none
   | none=>none)else none
end
end Go.AL
namespace Go.AL
open Go
theorem eqV_ok{a b:Value}(h:eqV a b=true):a=b:=by
 unfold eqV at h
 split at h
 ·simp only[Bool.and_eq_true,decide_eq_true_eq]at h;rw[h.1,h.2]
 ·simp only[beq_iff_eq]at h;rw[h]
 ·rename_i a b
  simp only[decide_eq_true_eq]at h
  have:a=b:=by
   cases a;cases b
   congr 1
   exact Array.ext' h
  rw[this]
 ·rfl
 ·simp only[Bool.and_eq_true,List.isEmpty_iff]at h
  rw[show _ = #[]from Array.ext' h.1,show _ = #[]from Array.ext' h.2]
 ·cases h
mutual
theorem eqD_ok:∀ {a b:D},eqD a b=true→a=b
 | .any,b,h=>by cases b<;>simp[eqD]at h ⊢
 | .val a,b,h=>by
  cases b<;>simp[eqD]at h ⊢
  exact eqV_ok h
 | .agg a,b,h=>by
  cases b<;>simp[eqD]at h ⊢
  exact eqDL_ok h
 | .tup a,b,h=>by
  cases b<;>simp[eqD]at h ⊢
  exact eqDL_ok h
 | .sl n a,b,h=>by
  cases b<;>simp[eqD]at h ⊢
  exact⟨h.1,eqDLL_ok h.2⟩
 | .emp,b,h=>by cases b<;>simp[eqD]at h ⊢
 | .osl a1 a2 a3 a4 a5,b,h=>by
  cases b<;>simp[eqD]at h ⊢
  simp[h]
 | .ptr a1 a2 a3,b,h=>by
  cases b<;>simp[eqD]at h ⊢
  simp[h]
 | .fptr a,b,h=>by
  cases b<;>simp[eqD]at h ⊢
  exact eqDL_ok h
 | .omap a,b,h=>by cases b<;>simp[eqD]at h ⊢;exact h
 | .yld a,b,h=>by cases b<;>simp[eqD]at h ⊢;exact h
 | .fn f a a',b,h=>by
  cases f<;>cases b<;>first|(simp[eqD]at h;done)|skip
  rename_i f g b b'
  cases g<;>simp[eqD]at h ⊢
  exact⟨h.1.1,eqDL_ok h.1.2,eqDL_ok h.2⟩
theorem eqDL_ok:∀ {a b:List D},eqDL a b=true→a=b
 | [],[],_=>rfl
 | a::l,b::m,h=>by
  simp only[eqDL,Bool.and_eq_true]at h
  rw[eqD_ok h.1,eqDL_ok h.2]
 | [],_::_,h=>by simp[eqDL]at h
 | _::_,[],h=>by simp[eqDL]at h
theorem eqDLL_ok:∀ {a b:List (List D)},eqDLL a b=true→a=b
 | [],[],_=>rfl
 | a::l,b::m,h=>by
  simp only[eqDLL,Bool.and_eq_true]at h
  rw[eqDL_ok h.1,eqDLL_ok h.2]
 | [],_::_,h=>by simp[eqDLL]at h
 | _::_,[],h=>by simp[eqDLL]at h
end
theorem eqEnv_ok:∀ {a b:Env},eqEnv a b=true→a=b
 | [],[],_=>rfl
 | (i,a)::l,(j,b)::m,h=>by
  simp only[eqEnv,Bool.and_eq_true,decide_eq_true_eq]at h
  rw[h.1.1,eqD_ok h.1.2,eqEnv_ok h.2]
 | [],_::_,h=>by simp[eqEnv]at h
 | _::_,[],h=>by simp[eqEnv]at h
theorem eqEs_ok:∀ {a b:List (Value×D)},eqEs a b=true→a=b
 | [],[],_=>rfl
 | (i,a)::l,(j,b)::m,h=>by
  simp only[eqEs,Bool.and_eq_true]at h
  rw[eqV_ok h.1.1,eqD_ok h.1.2,eqEs_ok h.2]
 | [],_::_,h=>by simp[eqEs]at h
 | _::_,[],h=>by simp[eqEs]at h
theorem eqOb_ok{a b:Ob}(h:eqOb a b=true):a=b:=by
 unfold eqOb at h
 split at h
 ·simp only[Bool.and_eq_true,decide_eq_true_eq]at h;rw[h.1.1,h.1.2,eqDL_ok h.2]
 ·simp only[Bool.and_eq_true,decide_eq_true_eq]at h;rw[h.1,eqEs_ok h.2]
 ·simp only[Bool.and_eq_true,decide_eq_true_eq]at h;rw[h.1.1,eqEnv_ok h.1.2,h.2]
 ·rename_i a p b q
  simp only[Bool.and_eq_true,decide_eq_true_eq]at h
  have:a=b:=by
   cases a;cases b
   congr 1
   exact Array.ext' h.1
  rw[this,h.2]
 ·simp only[Bool.and_eq_true,decide_eq_true_eq]at h;rw[eqD_ok h.1.1,h.1.2,h.2]
 ·rfl
 ·rfl
 ·rfl
 ·cases h
theorem eqH_ok:∀ {a b:Heap},eqH a b=true→a=b
 | [],[],_=>rfl
 | a::l,b::m,h=>by
  simp only[eqH,Bool.and_eq_true]at h
  rw[eqOb_ok h.1,eqH_ok h.2]
 | [],_::_,h=>by simp[eqH]at h
 | _::_,[],h=>by simp[eqH]at h
theorem eqSt_ok{a b:St}(h:eqSt a b=true):a=b:=by
 obtain⟨e,H,m,r⟩:=a
 obtain⟨e',H',m',r'⟩:=b
 simp only[eqSt,Bool.and_eq_true,decide_eq_true_eq,beq_iff_eq]at h
 obtain⟨⟨⟨h1,h2⟩,h3⟩,h4⟩:=h
 rw[eqEnv_ok h1,eqH_ok h2,h3,h4]
theorem eqOut_ok{a b:Out}(h:eqOut a b=true):a=b:=by
 unfold eqOut at h
 split at h
 ·rw[eqSt_ok h]
 ·simp only[Bool.and_eq_true,decide_eq_true_eq]at h;rw[h.1,eqSt_ok h.2]
 ·rw[eqSt_ok h]
 ·cases h
theorem eqRes_ok{a b:D×Heap}(h:eqRes a b=true):a=b:=by
 simp only[eqRes,Bool.and_eq_true]at h
 exact Prod.ext (eqD_ok h.1) (eqH_ok h.2)
theorem once_mem{α:Type}{eq:α→α→Bool}(h:∀ a b,eq a b=true→a=b):∀ {l:List α} {a:α},a∈l→a∈once eq l
 | [a],b,hb=>hb
 | a::b::l,c,hc=>by
  rw[once]
  ·split
   ·rename_i hany
    rcases List.mem_cons.1 hc with rfl|hc
    ·obtain⟨d,hd,hed⟩:=List.any_eq_true.1 hany
     rw[h _ _ hed];exact hd
    ·exact once_mem h hc
   ·rcases List.mem_cons.1 hc with rfl|hc
    ·exact List.mem_cons_self
    ·exact List.mem_cons_of_mem _ (once_mem h hc)
  ·intro e;cases e
theorem allL_mem{α β:Type}{f:α→Option (List β)}:∀ {l:List α} {r:List β},allL l f=some r→∀ a∈l,∃ y,f a=some y∧∀ b∈y,b∈r
 | [],r,_,a,ha=>by simp at ha
 | [a],r,h,b,hb=>by
  simp only[List.mem_singleton]at hb
  subst hb
  exact⟨r,h,fun _ h=>h⟩
 | a::b::l,r,h,c,hc=>by
  rw[allL]at h
  ·split at h
   ·rename_i x y hx hy
    cases h
    rcases List.mem_cons.1 hc with rfl|hc
    ·exact⟨x,hx,fun _ h=>List.mem_append_left _ h⟩
    ·obtain⟨z,hz,hzy⟩:=allL_mem hy c hc
     exact⟨z,hz,fun d hd=>List.mem_append_right _ (hzy d hd)⟩
   ·cases h
  ·intro e;cases e
section
variable{T:Tab}{cl:CallF}{rd:CodeF}
def InO(l:List Out):Res→Prop:=fun r=>∃ o∈l,r = .out o
def InS(l:List St):Res→Prop:=fun r=>∃ s∈l,r = .out (.norm s)
def InV(l:List (D×Heap)):Res→Prop:=fun r=>∃ p∈l,r = .val p.1 p.2
def ClOK(T:Tab)(cl:CallF):Prop:=∀ f args H l,cl f args H=some l→Ev T (.call f args H) (InV l)
def RdOK(T:Tab)(rd:CodeF):Prop:=∀ c s l,rd c s=some l→Ev T (.code c s) (InO l)
theorem InO.out{l:List Out}{o:Out}(h:InO l (.out o)):o∈l:=by
 obtain⟨o',h1,h2⟩:=h
 cases h2;exact h1
theorem InV.val{l:List (D×Heap)}{d:D}{H:Heap}(h:InV l (.val d H)):(d,H)∈l:=by
 obtain⟨o',h1,h2⟩:=h
 cases h2;exact h1
theorem InS.sub{a b:List St}(h:∀ s∈a,s∈b){r:Res}(hr:InS a r):InS b r:=by
 obtain⟨s,h1,h2⟩:=hr
 exact⟨s,h s h1,h2⟩
theorem InO.sub{a b:List Out}(h:∀ s∈a,s∈b){r:Res}(hr:InO a r):InO b r:=by
 obtain⟨s,h1,h2⟩:=hr
 exact⟨s,h s h1,h2⟩
theorem frz_guard{S:List Nat}{s:St}{g:Option (Nat×Bool)}{b:Bool}(h:guardOf s.env.get g=some b):guardOf (frz S s).env.get g=some b:=by
 cases g with
 | none=>exact h
 | some p=>
  simp only[guardOf,frz]at h ⊢
  have e:Env.get (s.env.map fun p=>(p.1,shed (rho (freezeKs s.H S)) s.H 40 p.2)) p.1=shed (rho (freezeKs s.H S)) s.H 40 (s.env.get p.1):=by
   generalize s.env=env
   induction env with
   | nil=>rfl
   | cons q r ih=>
    obtain⟨j,d⟩:=q
    simp only[List.map_cons,Env.get_cons]
    split
    ·rfl
    ·exact ih
  rw[e]
  split at h
  ·rename_i x hx
   rw[hx]
   have:shed (rho (freezeKs s.H S)) s.H 40 (.val (.bool x)) = .val (.bool x):=by unfold shed;rfl
   rw[this]
   exact h
  ·rename_i vs hx
   rw[hx]
   have:shed (rho (freezeKs s.H S)) s.H 40 (.val (.tuple vs)) = .val (.tuple vs):=by unfold shed;rfl
   rw[this]
   exact h
  ·cases h
theorem runCallP_ev(hcl:ClOK T cl){e:IEnt}{r:List IEnt}{f:FuncId}{fn:FnA}{s:St}{l:List St}{R:Res→Prop}(hg:guardOf s.env.get e.guard=some true)(hf:T.fn f=some fn)(hp:fn.full=false)
  (h:runCallP cl e f s=some l) (k:∀ s'∈l,Ev T (.ops r s') R):Ev T (.ops (e::r) s) R:=by
 unfold runCallP at h
 split at h
 ·cases h
 ·rename_i f' args hc
  split at h
  ·rename_i e1
   subst e1
   split at h
   ·rename_i l0 hcall
    have hm:=allL_mem h
    refine .callP hg hc hf hp (hcl _ _ _ _ hcall) (fun d Hn hd=>?_) fun d Hn s' hd hs'=>?_
    ·obtain⟨y,hy,_⟩:=hm _ hd.val
     dsimp only at hy
     split at hy
     ·rename_i q;rw[q];rfl
     ·cases hy
    ·obtain⟨y,hy,hyl⟩:=hm _ hd.val
     dsimp only at hy
     rw[hs']at hy
     cases hy
     exact k s' (hyl s' (by simp))
   ·cases h
  ·cases h
theorem runCall_ev(hcl:ClOK T cl){e:IEnt}{r:List IEnt}{s:St}{l:List St}{R:Res→Prop}(hg:guardOf s.env.get e.guard=some true)
  (h:runCall T cl e s=some l) (k:∀ s'∈l,Ev T (.ops r s') R):Ev T (.ops (e::r) s) R:=by
 unfold runCall at h
 split at h
 ·cases h
 ·rename_i f args hc
  split at h
  ·cases h
  ·rename_i fn hf
   split at h
   ·rename_i hfull
    split at h
    ·rename_i l0 hcall
     cases h
     refine .callF hg hc hf hfull (hcl _ _ _ _ hcall) fun d H' hd=>k _ ?_
     exact List.mem_map.2 ⟨(d,H'),hd.val,rfl⟩
    ·cases h
   ·rename_i hfull
    split at h
    ·rename_i hcond
     simp only[Bool.and_eq_true,List.isEmpty_iff]at hcond
     refine .frz (refsOf s args) ?_ (runCallP_ev hcl (frz_guard hg) hf hfull h k)
     rw[hcond.1.2];rfl
    ·exact runCallP_ev hcl hg hf hfull h k
theorem runRound_ev(hrd:RdOK T rd){e:IEnt}{r:List IEnt}{s:St}{v:Nat}{args:List D}{l:List St}{R:Res→Prop}(hg:guardOf s.env.get e.guard=some true)(hc:yieldOf s.env.get e.op=some (v,args))
  (h:runRound T rd e s v args=some l) (k:∀ s'∈l,Ev T (.ops r s') R):Ev T (.ops (e::r) s) R:=by
 unfold runRound at h
 split at h
 ·rename_i rf env0 hv
  split at h
  ·rename_i Rd hR
   split at h
   ·rename_i hl
    split at h
    ·rename_i la hla
     split at h
     ·rename_i lb hlb
      have hA:=allL_mem hlb
      have hB:=allL_mem h
      refine .callY hg hc hv hR hl (hrd _ _ _ hla) (Rb:=InO lb) (fun o ho=>?_) (fun s1 env1 hs1 hv1=>?_) (fun o ho=>?_) fun o env2 ho hv2=>?_
      ·obtain⟨y,hy,_⟩:=hA o ho.out
       split at hy
       ·rename_i s1
        split at hy
        ·rename_i rf1 env1 hv1
         split at hy
         ·rename_i e1;subst e1;exact⟨rfl,env1,hv1⟩
         ·cases hy
        ·cases hy
       ·cases hy
      ·obtain⟨y,hy,hyl⟩:=hA _ hs1.out
       simp only[hv1,if_true]at hy
       exact(hrd _ _ _ hy).mono fun r hr=>hr.sub hyl
      ·obtain⟨y,hy,_⟩:=hB o ho.out
       split at hy
       ·rename_i rf2 env2 hv2
        split at hy
        ·rename_i e2;subst e2;exact⟨env2,hv2⟩
        ·cases hy
       ·cases hy
      ·obtain⟨y,hy,hyl⟩:=hB o ho.out
       simp only[hv2,if_true]at hy
       cases hy
       exact k _ (hyl _ (by simp))
     ·cases h
    ·cases h
   ·cases h
  ·cases h
 ·cases h
theorem runNext_ev{e:IEnt}{r:List IEnt}{s:St}{x:X}{l:List St}{R:Res→Prop}(hg:guardOf s.env.get e.guard=some true)(hop:e.op = .nextM x)
  (h:runNext e s x=some l) (k:∀ s'∈l,Ev T (.ops r s') R):Ev T (.ops (e::r) s) R:=by
 unfold runNext at h
 split at h
 ·rename_i v hx
  split at h
  ·rename_i m since seen hv
   split at h
   ·rename_i kk es hm
    split at h
    ·rename_i hs
     dsimp only at h
     refine .next hg hop hx hv hm hs (fun h0=>?_) fun i kv d hi hni=>?_
     ·rw[if_pos]at h
      ·cases h
       exact k _ (by simp)
      ·rw[List.isEmpty_iff,List.filter_eq_nil_iff]
       intro i hi
       have:=h0 i (by simpa using hi)
       simpa using this
     ·have hlt:=(List.getElem?_eq_some_iff.1 hi).1
      rw[if_neg]at h
      ·cases h
       refine k _ (List.mem_filterMap.2 ⟨i,List.mem_filter.2 ⟨by simpa using hlt,by simpa using hni⟩,?_⟩)
       simp only[hi]
      ·rw[List.isEmpty_iff,List.filter_eq_nil_iff]
       intro h0
       have:=h0 i (by simpa using hlt)
       simp at this
       exact hni this
    ·cases h
   ·cases h
  ·cases h
 ·cases h
theorem runOps_ev(hcl:ClOK T cl)(hrd:RdOK T rd):∀ (l:List IEnt) (s:St) (r:List St),runOps T cl rd l s=some r→Ev T (.ops l s) (InS r)
 | [],s,r,h=>by cases h;exact .nil ⟨s,by simp,rfl⟩
 | e::r,s,res,h=>by
  have go:∀ {l:List St},(allL l fun s'=>runOps T cl rd r s')=some res→∀ s'∈l,Ev T (.ops r s') (InS res):=fun hl s' hs'=>by
   obtain⟨y,hy,hyl⟩:=allL_mem hl s' hs'
   exact(runOps_ev hcl hrd r s' y hy).mono fun _ hr=>hr.sub hyl
  simp only[runOps]at h
  split at h
  ·cases h
  ·rename_i hg;exact .off hg (runOps_ev hcl hrd r _ _ h)
  ·rename_i hg
   split at h
   ·rename_i d δ ha;exact .op hg ha (runOps_ev hcl hrd r _ _ h)
   ·split at h
    ·rename_i d δ ha;exact .sop hg ha (runOps_ev hcl hrd r _ _ h)
    ·split at h
     ·rename_i x hop
      split at h
      ·rename_i l hl;exact runNext_ev hg hop hl (go h)
      ·cases h
     ·split at h
      ·rename_i v args hc
       split at h
       ·rename_i l hl;exact runRound_ev hrd hg hc hl (go h)
       ·cases h
      ·split at h
       ·cases h
       ·rename_i hc
        split at h
        ·rename_i l hl;exact runCall_ev hcl hg hl (go h)
        ·cases h
theorem runTrace_ev(hcl:ClOK T cl)(st:Bool):∀ (l:List IEnt) (s:St) (rs:List Rc) (s':St),runTrace T cl st l s=some (rs,s')→Ev T (.trace l s) (fun r=>r = .tr rs s')
 | [],s,rs,s',h=>by cases h;exact .trNil rfl
 | e::r,s,rs,s',h=>by
  simp only[runTrace]at h
  split at h
  ·cases h
  ·rename_i hg
   split at h
   ·rename_i h1;cases h;exact .trOff hg (runTrace_ev hcl st r _ _ _ h1) fun _ _ h=>by cases h;rfl
   ·cases h
  ·rename_i hg
   split at h
   ·rename_i d δ ha
    split at h
    ·rename_i h1;cases h;exact .trOp hg ha (runTrace_ev hcl st r _ _ _ h1) fun _ _ h=>by cases h;rfl
    ·cases h
   ·split at h
    ·cases h
    ·rename_i f args hc
     split at h
     ·cases h
     ·rename_i fn hf
      split at h
      ·cases h
      ·rename_i hfull
       have hfl:fn.full=false:=by
        simp only[Bool.or_eq_true,not_or]at hfull
        simpa using hfull.1
       split at h
       ·rename_i d hcall
        by_cases hr:(if closedL args=true then closed d else flat d)=true
        ·rw[if_pos hr]at h
         split at h
         ·rename_i h1;cases h
          refine .trCall hg hc hf hfl (hcl _ _ _ _ hcall) (fun d' Hn hd=>?_) hr (runTrace_ev hcl st r _ _ _ h1) fun _ _ h=>by cases h;rfl
          have:=hd.val
          simp only[List.mem_singleton,Prod.mk.injEq]at this
          exact this
         ·cases h
        ·rw[if_neg hr]at h
         split at h
         ·rename_i g ars hop
          split at h
          ·rename_i v l hvl
           split at h
           ·rename_i hcond
            simp only[Bool.and_eq_true,List.all_eq_true,decide_eq_true_eq]at hcond
            obtain⟨⟨⟨c1,c2⟩,c3⟩,c4⟩:=hcond
            split at h
            ·rename_i h1;cases h
             have hc':some (g,ars.map (ev s.env.get))=some (f,args):=by rw[← hc,hop];rfl
             cases hc'
             refine .trCallZ (v:=v) hg hop rfl hf hfl (fun u hu=>?_) (by rw[hvl];simp) c2 c3 (hcl _ _ _ _ hcall) (fun d' Hn hd=>?_) c4 (runTrace_ev hcl st r _ _ _ h1) fun _ _ h=>by cases h;rfl
             ·rw[hvl]at hu
              rcases List.mem_cons.1 hu with h|h
              ·exact h
              ·exact c1 u h
             ·have:=hd.val
              simp only[List.mem_singleton,Prod.mk.injEq]at this
              exact this
            ·cases h
           ·cases h
          ·cases h
         ·cases h
       ·rename_i d ob hcall
        split at h
        ·rename_i g ars hop
         by_cases hr:(if closedL args=true then okRes d&&closedOb ob else okFlat d&&flatOb ob)=true
         ·rw[if_pos hr]at h
          split at h
          ·rename_i h1;cases h
           have hc':some (g,ars.map (ev s.env.get))=some (f,args):=by rw[← hc,hop];rfl
           cases hc'
           refine .trCallN hg hop rfl hf hfl (hcl _ _ _ _ hcall) (fun d' Hn hd=>?_) hr (runTrace_ev hcl st r _ _ _ h1) fun _ _ h=>by cases h;rfl
           have:=hd.val
           simp only[List.mem_singleton,Prod.mk.injEq]at this
           exact this
          ·cases h
         ·rw[if_neg hr]at h;cases h
        ·cases h
       ·cases h
theorem runCode_ev(hcl:ClOK T cl)(hrd:RdOK T rd){lp:Nat→List Nat→IR→St→Option (List Out)}(hlp:∀ n live a s l,lp n live a s=some l→Ev T (.loop n live a s) (InO l)) :
  ∀ (c:IR) (s:St) (l:List Out),runCode T cl lp rd c s=some l→Ev T (.code c s) (InO l):=by
 intro c
 induction c with
 | skip=>intro s l h;cases h;exact .skip ⟨_,by simp,rfl⟩
 | ops ops=>
  intro s l h
  simp only[runCode]at h
  split at h
  ·rename_i l0 h1
   cases h
   refine .cops ((runOps_ev hcl hrd _ _ _ h1).mono fun r hr=>?_)
   obtain⟨s',hs',rfl⟩:=hr
   exact⟨_,List.mem_map.2 ⟨s',hs',rfl⟩,rfl⟩
  ·cases h
 | drawL prs ops es=>intro s l h;simp[runCode]at h
 | draw prs ops=>
  intro s l h
  simp only[runCode]at h
  split at h
  ·rename_i rs s' h1
   split at h
   ·rename_i hp;cases h;exact .draw (runTrace_ev hcl _ _ _ _ _ h1) fun _ _ h=>by cases h;exact⟨hp,_,by simp,rfl⟩
   ·cases h
  ·split at h
   ·rename_i hm
    split at h
    ·rename_i rs s' h1
     split at h
     ·rename_i hp;cases h
      refine .frzC (List.range s.H.length) ?_ (.draw (runTrace_ev hcl _ _ _ _ _ h1) fun _ _ h=>by cases h;exact⟨hp,_,by simp,rfl⟩)
      rw[List.isEmpty_iff]at hm
      rw[hm];rfl
     ·cases h
    ·cases h
   ·cases h
 | seq a b iha ihb=>
  intro s l h
  simp only[runCode]at h
  split at h
  ·rename_i l0 h1
   have hm:=allL_mem h
   refine .seq (iha _ _ h1) (fun s' hs'=>?_) fun o ho hst=>?_
   ·obtain⟨y,hy,hyl⟩:=hm _ hs'.out
    exact(ihb _ _ hy).mono fun _ hr=>hr.sub hyl
   ·obtain⟨y,hy,hyl⟩:=hm _ ho.out
    cases o with
    | norm=>cases hst
    | exit id s'=>cases hy;exact⟨_,hyl _ (by simp),rfl⟩
    | ret s'=>cases hy;exact⟨_,hyl _ (by simp),rfl⟩
  ·cases h
 | cond c a b iha ihb=>
  intro s o h
  simp only[runCode]at h
  split at h
  ·rename_i hc;exact .cond (x:=true) hc (iha _ _ h)
  ·rename_i hc;exact .cond (x:=false) hc (ihb _ _ h)
  ·cases h
 | block id live a iha=>
  intro s l h
  simp only[runCode]at h
  split at h
  ·rename_i l0 h1
   cases h
   refine .block (iha _ _ h1) fun o ho=>⟨_,once_mem (fun _ _=>eqOut_ok) (List.mem_map.2 ⟨o,ho.out,rfl⟩),rfl⟩
  ·cases h
 | loop live a iha=>intro s o h;exact .loop (hlp _ _ _ _ _ h)
 | rangeF rf live x=>
  intro s l h
  simp only[runCode]at h
  split at h
  ·cases h
  ·rename_i hrnd
   split at h
   ·rename_i f first cap hx
    split at h
    ·rename_i fn hf
     split at h
     ·rename_i hfull
      split at h
      ·rename_i l0 hcall
       have hm:=allL_mem h
       refine .rangeF (by simpa using hrnd) hx hf hfull (hcl _ _ _ _ hcall) fun d H' hd=>?_
       obtain⟨y,hy,hyl⟩:=hm _ hd.val
       dsimp only at hy
       split at hy
       ·rename_i rf' env st hat
        split at hy
        ·rename_i e;subst e
         split at hy
         ·rename_i o ho
          cases hy
          exact⟨env,st,o,hat,ho,_,hyl _ (by simp),rfl⟩
         ·cases hy
        ·cases hy
       ·cases hy
      ·cases h
     ·cases h
    ·cases h
   ·cases h
 | exit id=>intro s o h;cases h;exact .exit ⟨_,by simp,rfl⟩
 | ret=>intro s o h;cases h;exact .ret ⟨_,by simp,rfl⟩
 | bad=>intro s o h;cases h
 | fz _ _=>intro s o h;cases h
 | fzO _ _ _=>intro s o h;cases h
end
section
variable{T:Tab}
def MemoOK(T:Tab)(M:Memo):Prop:=∀ p∈M,Ev T (.call p.1 p.2.1 []) (InV p.2.2)
theorem MemoOK.nil(T:Tab):MemoOK T []:=fun p hp=>by cases hp
theorem MemoOK.cons{T:Tab}{f:FuncId}{args:List D}{l:List (D×Heap)}{M:Memo}(h:Ev T (.call f args []) (InV l))(t:MemoOK T M):MemoOK T ((f,args,l)::M):=fun p hp=>by
 rcases List.mem_cons.1 hp with rfl|hp
 ·exact h
 ·exact t p hp
theorem recall_ok{M:Memo}(hM:MemoOK T M){f:FuncId}{args:List D}{l:List (D×Heap)}(h:recall M f args=some l):Ev T (.call f args []) (InV l):=by
 induction M with
 | nil=>cases h
 | cons p M ih=>
  obtain⟨g,ars,l'⟩:=p
  have hM':MemoOK T M:=fun q hq=>hM q (by simp[hq])
  simp only[recall]at h
  split at h
  ·rename_i hg
   split at h
   ·rename_i ha
    cases h
    have:=hM (g,ars,l) (by simp)
    rw[eqDL_ok ha,Nat.eq_of_beq_eq_true hg]at this
    exact this
   ·exact ih hM' h
  ·exact ih hM' h
theorem run_all{M:Memo}(hM:MemoOK T M):∀ k:Nat,(∀ n live a s l,runLoop T M k n live a s=some l→Ev T (.loop n live a s) (InO l))∧RdOK T (runRd T M k)∧ClOK T (run T M k)
 | 0=>⟨fun _ _ _ _ _ h=>by simp[runLoop]at h,fun _ _ _ h=>by simp[runRd]at h,fun _ _ _ _ h=>by simp[run]at h⟩
 | k+1=>by
  obtain⟨i1,i2,i3⟩:=run_all hM k
  refine⟨fun n live a s l h=>?_,fun c s l h=>?_,fun f args H l h=>?_⟩
  ·simp only[runLoop]at h
   split at h
   ·rename_i l0 h1
    have hm:=allL_mem h
    refine .loopI (runCode_ev i3 i2 i1 _ _ _ h1) (fun s' hs'=>?_) fun o ho hst=>?_
    ·obtain⟨y,hy,hyl⟩:=hm _ hs'.out
     exact(i1 _ _ _ _ _ hy).mono fun _ hr=>hr.sub hyl
    ·obtain⟨y,hy,hyl⟩:=hm _ ho.out
     cases o with
     | norm=>cases hst
     | exit id s'=>cases hy;exact⟨_,hyl _ (by simp),rfl⟩
     | ret s'=>cases hy;exact⟨_,hyl _ (by simp),rfl⟩
   ·cases h
  ·simp only[runRd]at h
   exact runCode_ev i3 i2 i1 _ _ _ h
  ·simp only[run]at h
   split at h
   ·rename_i l0 hk
    cases h
    cases H with
    | nil=>exact recall_ok hM hk
    | cons=>cases hk
   split at h
   ·cases h
   ·rename_i fn hf
    split at h
    ·rename_i hl
     split at h
     ·rename_i l0 h1
      split at h
      ·rename_i ps h2
       cases h
       have hm:=allL_mem h2
       refine .call fn.own hf hl (runCode_ev i3 i2 i1 _ _ _ h1) fun o ho=>?_
       obtain⟨y,hy,hyl⟩:=hm _ ho.out
       split at hy
       ·rename_i p hp
        cases hy
        exact⟨p.1,p.2,hp,p,once_mem (fun _ _=>eqRes_ok) (hyl _ (by simp)),rfl⟩
       ·cases hy
      ·cases h
     ·cases h
    ·cases h
theorem run_ev{M:Memo}(hM:MemoOK T M){k:Nat}{f:FuncId}{args:List D}{H:Heap}{l:List (D×Heap)}(h:run T M k f args H=some l):Ev T (.call f args H) (InV l):=(run_all hM k).2.2 f args H l h
end
end Go.AL
namespace Go.AL
open Go
@[reducible] def o(k:Nat)(op:IOp):IEnt:={ dst:=some k,op:=op,guard:=none }
@[reducible] def u(op:IOp):IEnt:={ dst:=none,op:=op,guard:=none }
@[reducible] def og(j:Nat)(b:Bool)(k:Nat)(op:IOp):IEnt:={ dst:=some k,op:=op,guard:=some (j,b) }
@[reducible] def M(k j:Nat):IEnt:=o k (.mv (.t j))
@[reducible] def L(k j:Nat):IEnt:=o k (.ld1 (.t j))
@[reducible] def N(k n j:Nat):IEnt:=o k (.ldN n (.t j))
@[reducible] def F(k i j:Nat):IEnt:=o k (.fieldA i (.t j))
@[reducible] def A(k:Nat)(p:BinOp)(j:Nat)(n:Int):IEnt:=o k (.arith p (.t j) (.c (.i n)))
@[reducible] def B(k:Nat)(p:BinOp)(i j:Nat):IEnt:=o k (.arith p (.t i) (.t j))
@[reducible] def I(k n i j:Nat):IEnt:=o k (.idxA n (.t i) (.t j))
@[reducible] def cq(k:Nat)(n:Int):IEnt:=o k (.mv (.c (.i n)))
@[reducible] def sq(n i j:Nat):IEnt:=u (.stN n (.t i) (.t j))
@[reducible] def xq(k t j:Nat):IEnt:=o k (.box t (.t j))
@[reducible] def zq(k j:Nat):IEnt:=o k (.len .slice (.t j))
@[reducible] def pq(k a b:Nat):IEnt:=o k (.pick (.t a) (.c (.b true)) (.t b))
@[reducible] def rq(k a b:Nat):IEnt:=o k (.pick (.t a) (.t b) (.c (.b false)))
@[reducible] def kq(k f j:Nat):IEnt:=o k (.call f [.t j])
@[reducible] def G(i:Nat)(b:Bool)(k j:Nat):IEnt:=og i b k (.mv (.t j))
@[reducible] def glq(i:Nat)(b:Bool)(k j:Nat):IEnt:=og i b k (.ld1 (.t j))
@[reducible] def gfq(i:Nat)(b:Bool)(k n j:Nat):IEnt:=og i b k (.fieldA n (.t j))
@[reducible] def gaq(i:Nat)(b:Bool)(k:Nat)(p:BinOp)(j:Nat)(n:Int):IEnt:=og i b k (.arith p (.t j) (.c (.i n)))
@[reducible] def gbq(i:Nat)(b:Bool)(k:Nat)(p:BinOp)(j n:Nat):IEnt:=og i b k (.arith p (.t j) (.t n))
@[reducible] def nE(k:Nat):IEnt:=o k (.mv (.c .emp))
@[reducible] def nF(k:Nat):IEnt:=o k (.mv (.c (.b false)))
@[reducible] def nT(k:Nat):IEnt:=o k (.mv (.c (.b true)))
@[reducible] def Q(l:List IEnt)(b:IR):IR:=.seq (.ops l) b
@[reducible] def cx(n k:Nat):IR:=.cond (.t n) .skip (.exit k)
def nth:List (Option FnA)→Nat→Option FnA
 | [],_=>none
 | a::_,0=>a
 | _::l,n+1=>nth l n
def assoc:List (Nat×RoundA)→Nat→Option RoundA
 | [],_=>none
 | (k,R)::l,n=>if k=n then some R else assoc l n
def elem(f:Nat):List Nat→Bool
 | []=>false
 | a::l=>if a=f then true else elem f l
def bodyOf(fn:Func):Code:=fn.body.getD .skip
def roundPs(P:Program)(rf:Nat):Array Tmp:=match rtOf P rf with
 | some (_,ps,_,_)=>ps
 | none=>#[]
def roundA(P:Program)(rf:Nat):Code:=match rtOf P rf with
 | some (_,_,a,_)=>a
 | none=>.skip
def roundB(P:Program)(rf:Nat):Code:=match rtOf P rf with
 | some (_,_,_,b)=>b
 | none=>.skip
section
variable{P:Program}{G:GT}
theorem fnOK_of{f:FuncId}{fn:FnA}{func:Func}{code:Code}{hs hs':List (List Nat)}(h1:P.funcs[f]? = some func)(h2:func.body=some code)(h3:entersB P f=true)(h4:(rcs code).length≤64)
  (h5:cC P G fn.ntmps (64*f) hs code=some (fn.body,hs')) (h6:func.ntmps=fn.ntmps) (h7:cRs P func.results.toList=some fn.results):FnOK P G f fn:=⟨⟨func,code,hs,hs',h1,h2,h3,h4,h5,h6,h7⟩⟩
theorem roundOK_of{rf:Nat}{R:RoundA}{N:Nat}{ps:Array Tmp}{ac bc:Code}(ha hb:List (List Nat))(h1:G.rt rf=some (N,ps,ac,bc))(h2:ps.toList=R.params)(h3:(R.params.all fun p=>decide (p<N))=true)
  (h4:rcs ac = []∧rcs bc = []) (h5:cC P G N 0 ha ac=some (R.a,[])) (h6:cC P G N 0 hb bc=some (R.b,[])):RoundOK P G rf R:=
 ⟨⟨N,ps,ac,bc,h1,h2,h3,cC_rel (fun i x hx=>by rw[h4.1]at hx;cases hx) h5,cC_rel (fun i x hx=>by rw[h4.2]at hx;cases hx) h6⟩⟩
inductive FnsOK(P:Program)(G:GT):Nat→List (Option FnA)→Prop
 | nil (k:Nat):FnsOK P G k []
 | has {k:Nat} {fn:FnA} {l:List (Option FnA)} (h:FnOK P G k fn) (t:FnsOK P G (k+1) l):FnsOK P G k (some fn::l)
 | no {k:Nat} {l:List (Option FnA)} (t:FnsOK P G (k+1) l):FnsOK P G k (none::l)
inductive RoundsOK(P:Program)(G:GT):List (Nat×RoundA)→Prop
 | nil:RoundsOK P G []
 | cons {k:Nat} {R:RoundA} {l:List (Nat×RoundA)} (h:RoundOK P G k R) (t:RoundsOK P G l):RoundsOK P G ((k,R)::l)
theorem FnsOK.get:∀ {l:List (Option FnA)} {k:Nat},FnsOK P G k l→∀ (i:Nat) (fn:FnA),nth l i=some fn→FnOK P G (k+i) fn:=by
 intro l k h
 induction h with
 | nil=>intro i fn hi;cases hi
 | has h t ih=>
  intro i fn hi
  cases i with
  | zero=>cases hi;exact h
  | succ i=>
   have:=ih i fn hi
   rwa [Nat.add_assoc,Nat.add_comm 1 i]at this
 | no t ih=>
  intro i fn hi
  cases i with
  | zero=>cases hi
  | succ i=>
   have:=ih i fn hi
   rwa [Nat.add_assoc,Nat.add_comm 1 i]at this
theorem RoundsOK.get{l:List (Nat×RoundA)}(h:RoundsOK P G l):∀ (i:Nat) (R:RoundA),assoc l i=some R→RoundOK P G i R:=by
 induction h with
 | nil=>intro i R hi;cases hi
 | @cons k R0 l h t ih=>
  intro i R hi
  simp only[assoc]at hi
  split at hi
  ·rename_i e;subst e;cases hi;exact h
  ·exact ih i R hi
theorem tabOK_of{l:List (Option FnA)}{r:List (Nat×RoundA)}{so:FuncId→Option Nat}(hrt:G.rt=rtOf P)(h:FnsOK P G 0 l)(h2:RoundsOK P G r){si:FuncId→Bool}(h3:∀ f sz,so f=some sz→SortOK P f sz)(h4:∀ f,si f=true→SortIOK P f):TabOK P G { fn:=nth l,round:=assoc r,sort:=so,sortI:=si } where
 sort:=h3
 sortI:=h4
 rt:=hrt
 fn f fn hf:=by
  have:=h.get f fn hf
  rwa [Nat.zero_add]at this
 round:=h2.get
end
end Go.AL
