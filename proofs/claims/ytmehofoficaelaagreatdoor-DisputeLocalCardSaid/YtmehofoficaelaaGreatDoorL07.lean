/- Part 7 of DisputeLocal. -/
import Derived.Test.YtmehofoficaelaaGreatDoorL06
import Derived.KernelRfl
set_option linter.all false
namespace Go.AL
open Go
def CC(P:Program)(G:GT)(g:FuncId)(args:List D)(d:D)(Hn:U):Prop:=p8 P g=true∧u3 P G g args [] d Hn
def outs(R:n4→Prop):Out→Prop:=fun o=>R (.out o)
def Ay(R:n4→Prop):D→U→Prop:=fun d H=>R (.val d H)
def Good(P:Program)(G:GT):wM→(n4→Prop)→Prop
 | .ops l s,R=>∀ (N:Nat) (A:Array Oper) (ops:List Oper),n9 P G N A ops=some l →
   ∀ (ro:Option Nat) (n:Nat) (Q:Exit→Act→World→Prop) (c:Ctx) (w:World) (a:Act),(s.gZ=false→ro=none)→kz G N c w s a→tM G N s.H.length s.gZ c s.H w (outs R) Q→wpListIn (FW ro) n P A Q ops a w
 | .code ir s,R=>∀ (N:Nat) (code:Code),mC P G N ir code →
   ∀ (ro:Option Nat) (n:Nat) (Q:Exit→Act→World→Prop) (c:Ctx) (w:World) (a:Act),(s.gZ=false→ro=none)→kz G N c w s a→tM G N s.H.length s.gZ c s.H w (outs R) Q→code.wpIn (FW ro) n P Q a w
 | .loop n0 _ ir s,R=>n0≤s.H.length→∀ (N:Nat) (code:Code),mC P G N ir code →
   ∀ (ro:Option Nat) (n:Nat) (Q:Exit→Act→World→Prop) (c:Ctx) (w:World) (a:Act),(s.gZ=false→ro=none)→kz G N c w s a→tM G N n0 s.gZ c s.H w (outs R) Q→Gh (FW ro) n P code Q a w
 | .call f args H,R=>sE P G f args H (Ay R)
 | .trace l s,R=>∃ rs s',R (.tr rs s')∧s.H.length≤s'.H.length∧s'.marks=s.marks∧s'.gZ=s.gZ∧∀ (K k0:Nat),s'.H.length≤K→∃ items:List l6,items.map (·.e)=l∧items.map (·.rc)=rs∧items.map (·.k)=List.range' k0 l.length ∧
   Tx (CC P G) s.env.get (s.H++room (K-s.H.length)) items s'.env.get (s'.H++room (K-s'.H.length))
section
variable{P:Program}{G:GT}{T:gP}
def tM.mono{N n m:Nat}{gZ:Bool}{c c1:Ctx}{H H1:U}{w w1:World}{R:Out→Prop}{Q:Exit→Act→World→Prop}(h:tM G N n gZ c H w R Q)(hs:Step n c H w c1 H1 w1)(hm:n≤m):tM G N m gZ c1 H1 w1 R Q:=
 fun o c' w' a' hR hr hl eZ fm=>h o c' w' a' hR hr (Nat.le_trans hm hl) eZ (hs.trans fm hm)
def Bp{N:Nat}{A:Array Oper}{o:Oper}{r:List Oper}{l:List ff}(h:n9 P G N A (o::r)=some l) :
  ∃ e l',l=e::l'∧sT P G N A o=some e∧n9 P G N A r=some l':=by
 simp only[n9]at h
 split at h
 ·rename_i e l' he hl
  cases h
  exact⟨e,l',rfl,he,hl⟩
 ·cases h
def Vf{N:Nat}{A:Array Oper}{ops:List Oper}(h:n9 P G N A ops=some []):ops = []:=by
 cases ops with
 | nil=>rfl
 | cons o r=>
  obtain⟨e,l',h1,_⟩:=Bp h
  cases h1
theorem O6{N:Nat}{A:Array Oper}:∀ {l es:List ff} {ops:List Oper},n9 P G N A ops=some (l++es)→∃ o1 o2,ops=o1++o2∧n9 P G N A o1=some l∧n9 P G N A o2=some es
 | [],es,ops,h=>⟨[],ops,rfl,rfl,h⟩
 | e::l,es,ops,h=>by
  cases ops with
  | nil=>cases h
  | cons o r=>
   obtain⟨e',l',h1,h2,h3⟩:=Bp h
   cases h1
   obtain⟨o1,o2,rfl,h4,h5⟩:=O6 h3
   exact⟨o::o1,o2,rfl,by simp only[n9,h2,h4],h5⟩
def O7{N:Nat}{A:Array Oper}:∀ {ops:List Oper} {l:List ff},n9 P G N A ops=some l→ops.length=l.length∧∀ (i:Nat) (o:Oper) (e:ff),ops[i]? = some o→l[i]? = some e→sT P G N A o=some e:=by
 intro ops
 induction ops with
 | nil=>intro l h;cases h;exact⟨rfl,fun i o e h=>by simp at h⟩
 | cons o r LG=>
  intro l h
  obtain⟨e,l',rfl,h1,h2⟩:=Bp h
  obtain⟨q1,q2⟩:=LG h2
  refine⟨by simp[q1],fun i o' e' ho he=>?_⟩
  cases i with
  | zero=>simp at ho he;subst ho;subst he;exact h1
  | succ i=>exact q2 i o' e' (by simpa using ho) (by simpa using he)
def w7{N:Nat}{A:Array Oper}{ops:List Oper}{e:ff}{l:List ff}(h:n9 P G N A ops=some (e::l)) :
  ∃ o r,ops=o::r∧sT P G N A o=some e∧n9 P G N A r=some l:=by
 cases ops with
 | nil=>cases h
 | cons o r=>
  obtain⟨e',l',h1,h2,h3⟩:=Bp h
  cases h1
  exact⟨o,r,rfl,h2,h3⟩
def TU{N:Nat}{c:Ctx}{w:World}{s:St}{a:Act}{ro:Option Nat}{n:Nat}{o:Oper}{io:ij}{f:FuncId}{args:List D}{next:Act→World→Prop}{Q:Exit→Act→World→Prop}(hs:kz G N c w s a)(hc:ml P G o=some io)
  (hd:qt N o.dst=true) (jn:jN s.env.get io=some (f,args)) (kn:p8 P f=true) {R:D→U→Prop}
  (jh:∀ vs:List Value,iS c w vs args→Calls P f vs.toArray w fun e w'=>∃ v c' d H',e = .returned v∧R d H'∧fr G c' H' w'∧eW c' w' v d∧Step s.H.length c s.H w c' H' w')
  (k:∀ d H' c' w' a',R d H'→kz G N c' w' { s with env:=put s.env o.dst d,H:=H' } a'→Step s.H.length c s.H w c' H' w'→next a' w'):o.wpIn (FW ro) n P a w next Q:=by
 obtain⟨vs,gK,iy⟩:=IL hs.eZ hs.env hc jn kn
 refine⟨fun _ _=>trivial,?_⟩
 rw[Oper.semAt_plain (FW ro) a.eval o (yg hc),gK]
 refine⟨fun h=>by simp[Fence.wide]at h,Bg.2 ((jh vs iy).mono ?_)⟩
 rintro e w' ⟨v,c',d,H',rfl,hR,eZ,hr,fm⟩
 exact k d H' c' w' _ hR (hs.next eZ fm hd hr) fm
def T2{s s1:St}{dst:Option Nat}{args:List D}{r:D}{Hn:U}(h:after s dst args r Hn=some s1) :
  (if fE args then lU r&&Hn.all mL else np r&&Hn.all oe)=true∧s1 = { s with env:=put s.env dst (jK s.H.length r),H:=s.H++Hn }:=by
 unfold after at h
 generalize (if fE args=true then lU r&&Hn.all mL else np r&&Hn.all oe)=b at h
 cases b
 ·cases h
 ·cases h;exact⟨rfl,rfl⟩
def SA{P:Program}{G:GT}{o:Oper}{io:ij}(hc:ml P G o=some io):IY io=false:=by
 unfold ml at hc
 split at hc
 all_goals try simp only[ax,ae,aF]at hc
 all_goals (repeat' first|(obtain⟨_,_,hc⟩:=hc)|split at hc|simp only[ae]at hc)
 all_goals first|rfl|(cases hc;done)|(cases hc;rfl)|(split<;>rfl)
def ae8{P:Program}{G:GT}{o:Oper}{x:X}(hc:ml P G o=some (.nextM x)):False:=by
 have:=SA hc
 cases this
def ae9{P:Program}{G:GT}{o:Oper}{io:ij}(hc:ml P G o=some io){f:gd}{H:U}{n:Nat}{r:D×Dl}(h:lu f H n io=some r):False:=by
 have:=SA hc
 cases io<;>first|(cases h;done)|(cases this;done)
def afy{fn:eV}(s:St)(ms:List Nat):AL.results fn { s with marks:=ms }=AL.results fn s:=by
 have h1:∀ x,Ai { s with marks:=ms } x=Ai s x:=fun x=>by cases x<;>rfl
 have h2:∀ l,rC { s with marks:=ms } l=rC s l:=by
  intro l
  induction l with
  | nil=>rfl
  | cons x r ih=>simp only[rC,h1,ih]
 simp only[AL.results,h2]
def WU(hM:P.follows .mixedOrders=true)(hT:Jj P G T){j:wM}{R:n4→Prop}(h:Ev T j R):Good P G j R:=by
 induction h with
 | @mono j R R' h hi ih=>
  cases j with
  | ops l s=>exact fun N A ops hc ro n Q c w a iq hs hk=>ih N A ops hc ro n Q c w a iq hs fun o c' w' a' hR=>hk o c' w' a' (hi _ hR)
  | code ir s=>exact fun N code hc ro n Q c w a iq hs hk=>ih N code hc ro n Q c w a iq hs fun o c' w' a' hR=>hk o c' w' a' (hi _ hR)
  | loop n0 live ir s=>exact fun hn N code hc ro n Q c w a iq hs hk=>ih hn N code hc ro n Q c w a iq hs fun o c' w' a' hR=>hk o c' w' a' (hi _ hR)
  | call f args H=>exact fun c w vs h1 h2=>(ih c w vs h1 h2).mono fun _ _ ⟨v,c',d,H',he,hR,r⟩=>⟨v,c',d,H',he,hi _ hR,r⟩
  | trace l s=>
   obtain⟨rs,s',h1,h2⟩:=ih
   exact⟨rs,s',hi _ h1,h2⟩
 | @sort f g fn sz v gen t H R α fc l cf hs hg hl gj h0 vD zZ tr nt hc hv k sn=>
  obtain⟨func,code,h1,h2,t1,t2,t3,_⟩:=(hT.fn g fn hg).ex
  exact ags (hT.sort f sz hs) t3 fc l hl gj h0 vD cf zZ tr nt (fun x hx y hy c w vs h1 h2=>(sn x hx y hy c w vs h1 h2).mono fun _ _ ⟨v,c',d,H',he,hR,r⟩=>⟨v,c',d,H',he,by obtain⟨_,e⟩:=hR;cases e;rfl,r⟩) hv k
 | @Ar f sz x H R hs k=>exact agr (hT.sort f sz hs) (f:=f) (g:=0) k
 | @qT f v gen t H R l hs h0 vD hv k=>exact agu (hT.qT f hs) l h0 vD hv k
 | @nil s R h=>
  intro N A ops hc ro n Q c w a iq hs hk
  rw[Vf hc]
  exact hk _ c w a h rfl (Nat.le_refl _) hs (Step.refl _ _ _ _)
 | @op e r s d δ R hg h t ih=>
  have hle:s.H.length≤(δ.app s.H (Al.last s.H)).length:=Jq δ s.H
  intro N A ops hc ro n Q c w a iq hs hk
  obtain⟨o,r',rfl,ho,mw⟩:=w7 hc
  obtain⟨s1,s2,s3,s4⟩:=vt ho
  have hw:=rF hs.env s4 hg
  simp only[wpListIn,hw,if_true]
  have s1:=O1 s1 h
  refine agV hs s1 s3 (l5.last s.H) h fun c' w' a' gw fm=>?_
  rw[← s2]at gw
  exact ih N A r' mw ro n Q c' w' a' iq gw (hk.mono fm hle)
 | @yD e r s d δ R hg h t ih=>
  have hle:s.H.length≤(δ.app s.H (Al.last s.H)).length:=Jq δ s.H
  intro N A ops hc ro n Q c w a iq hs hk
  obtain⟨o,r',rfl,ho,mw⟩:=w7 hc
  obtain⟨s1,s2,s3,s4⟩:=vt ho
  have hw:=rF hs.env s4 hg
  simp only[wpListIn,hw,if_true]
  have s1:=s1.resolve_left fun h2=>ae9 h2 h
  refine agX hs s1 s3 (l5.last s.H) h fun c' w' a' gw fm=>?_
  rw[← s2]at gw
  exact ih N A r' mw ro n Q c' w' a' iq gw (hk.mono fm hle)
 | @off e r s R hg t ih=>
  intro N A ops hc ro n Q c w a iq hs hk
  obtain⟨o,r',rfl,ho,mw⟩:=w7 hc
  obtain⟨s1,s2,s3,s4⟩:=vt ho
  have hw:=rF hs.env s4 hg
  simp only[wpListIn,hw,br,if_false]
  refine⟨fun _ _=>trivial,?_⟩
  have gw:=hs.next hs.eZ (Step.refl _ _ _ _) s3 (v:=undef) (d:=.val undef) (.val _)
  rw[← s2]at gw
  rw[← s2]
  exact ih N A r' mw ro n Q c w _ iq (by rw[s2]at gw ⊢;exact gw) hk
 | @kX l s R S hm t ih=>
  have hlen:(kX S s).H.length=s.H.length:=J'
  intro N A ops hc ro n Q c w a iq hs hk
  obtain⟨c',gw,fm,_⟩:=P0 hs S
  refine ih N A ops hc ro n Q c' w a iq gw ?_
  rw[hlen]
  exact hk.mono fm (Nat.le_refl _)
 | @BE code s R S hm t ih=>
  have hlen:(kX S s).H.length=s.H.length:=J'
  intro N code hc ro n Q c w a iq hs hk
  obtain⟨c',gw,fm,_⟩:=P0 hs S
  refine ih N code hc ro n Q c' w a iq gw ?_
  rw[hlen]
  exact hk.mono fm (Nat.le_refl _)
 | @J8 l s R live t ih=>
  intro N A ops hc ro n Q c w a iq hs hk
  exact ih N A ops hc ro n Q c w a iq ⟨hs.eZ,zi hs.env live,hs.size,hs.marks⟩ hk
 | @He code s R live t ih=>
  intro N code hc ro n Q c w a iq hs hk
  exact ih N code hc ro n Q c w a iq ⟨hs.eZ,zi hs.env live,hs.size,hs.marks⟩ hk
 | @Bf e r s f args fn R1 R hg hc hf hp h ha t sn ih=>
  intro N A ops nO ro n Q c w a iq hs hk
  obtain⟨o,r',rfl,ho,mw⟩:=w7 nO
  obtain⟨s1,s2,s3,s4⟩:=vt ho
  have hw:=rF hs.env s4 hg
  simp only[wpListIn,hw,if_true]
  obtain⟨func,code,h1,h2,t1,t2,t3,_⟩:=(hT.fn f fn hf).ex
  have iJ:∀ d Hn,Ay R1 d Hn→(if fE args then lU d&&Hn.all mL else np d&&Hn.all oe)=true∧after s e.dst args d Hn=some { s with env:=put s.env e.dst (jK s.H.length d),H:=s.H++Hn }:=fun d Hn hR=>by
   obtain⟨s',gw⟩:=cJ.1 (ha d Hn hR)
   obtain⟨k1,rfl⟩:=T2 gw
   exact⟨k1,gw⟩
  have s1:=Bl s1 hc
  refine TU hs s1 s3 hc t3 (R:=fun d H'=>∃ d0 Hn,Ay R1 d0 Hn∧d=jK s.H.length d0∧H'=s.H++Hn) (fun vs iy=>(afg hs.eZ iy sn fun d Hn hR=>(iJ d Hn hR).1).mono ?_) ?_
  ·rintro e w' ⟨v,c',d,Hn,he,hR,k1,k2,k3⟩
   exact⟨v,c',_,_,he,⟨d,Hn,hR,rfl,rfl⟩,k1,k2,k3⟩
  ·rintro d H' c' w' a' ⟨d0,Hn,hR,rfl,rfl⟩ gw fm
   rw[← s2]at gw
   exact ih d0 Hn _ hR (iJ d0 Hn hR).2 N A r' mw ro n Q c' w' a' iq gw (hk.mono fm (by simp))
 | @Be e r s f args fn R1 R hg hc hf hp h t sn ih=>
  intro N A ops nO ro n Q c w a iq hs hk
  obtain⟨o,r',rfl,ho,mw⟩:=w7 nO
  obtain⟨s1,s2,s3,s4⟩:=vt ho
  have hw:=rF hs.env s4 hg
  simp only[wpListIn,hw,if_true]
  obtain⟨func,code,h1,h2,t1,t2,t3,_⟩:=(hT.fn f fn hf).ex
  have s1:=Bl s1 hc
  refine TU hs s1 s3 hc t3 (R:=fun d H'=>Ay R1 d H'∧s.H.length≤H'.length) (fun vs iy=>(sn c w vs hs.eZ iy).mono ?_) ?_
  ·rintro e w' ⟨v,c',d,H',he,hR,hle,k1,k2,k3⟩
   exact⟨v,c',d,H',he,⟨hR,hle⟩,k1,k2,k3⟩
  ·rintro d H' c' w' a' ⟨hR,hle⟩ gw fm
   rw[← s2]at gw
   exact ih d H' hR N A r' mw ro n Q c' w' a' iq gw (hk.mono fm hle)
 | @Gr e r s v args rf env0 Rd Ra Rb R hg hc hv hR hl ha hn hb hm t oH tg sr=>
  intro N A ops nO ro n Q c w a iq hs hk
  obtain⟨o,r',rfl,ho,mw⟩:=w7 nO
  obtain⟨s1,s2,s3,s4⟩:=vt ho
  have hw:=rF hs.env s4 hg
  simp only[wpListIn,hw,if_true]
  obtain⟨M,ps,ac,bc,rT,HH,gi,KF,Xx⟩:=(hT.round rf Rd hR).ex
  rw[← HH]at hl oH gi
  have s1:=s1.resolve_right fun h2=>by
   have:=JJ h2
   unfold yieldOf at hc
   split at hc
   ·rename_i heq;rw[heq]at this;cases this
   ·cases hc
  refine agY hs s1 s3 hc hv rT (by simpa using hl) (fun p hp=>by simpa using ar.1 gi p hp) (Ra:=outs Ra) (Rb:=outs Rb) ?_ hn ?_ hm ?_
  ·exact fun ro n Q c w a gw jC=>oH M ac KF ro n Q c w a (fun h=>by cases h) gw jC
  ·intro s1 kA vF nS my ro n Q c w a gw jC
   have:=tg s1 kA vF my M bc Xx ro n Q c w a (fun h=>by simp[nS]at h) gw
   simp only[b8,nS]at this
   exact this jC
  ·intro q kj c' w' a' vG ng hle gw fm
   rw[← s2]at gw
   exact sr q kj vG ng N A r' mw ro n Q c' w' a' iq gw (hk.mono fm (by simpa using hle))
 | @next e r s x v m since seen kk es R hg gW hx hv hm pL h0 h1 Y5 pM=>
  intro N A ops nO ro n Q c w a iq hs hk
  obtain⟨o,r',rfl,ho,mw⟩:=w7 nO
  obtain⟨s1,s2,s3,s4⟩:=vt ho
  have hw:=rF hs.env s4 hg
  simp only[wpListIn,hw,if_true]
  rw[gW]at s1
  have s1:=s1.resolve_left fun h2=>ae8 h2
  refine agU hs s1 s3 hx hv hm pL ?_ ?_
  ·intro jO c' w' a' gw fm
   rw[← s2]at gw
   exact Y5 jO N A r' mw ro n Q c' w' a' iq gw (hk.mono fm (Nat.le_refl _))
  ·intro i k d hi xN c' w' a' gw fm
   rw[← s2]at gw
   exact pM i k d hi xN N A r' mw ro n Q c' w' a' iq gw (hk.mono fm (by simp))
 | @skip s R h=>
  intro N code hc ro n Q c w a iq eZ hk
  cases hc
  exact wpIn_skip (hk _ c w a h rfl (Nat.le_refl _) eZ (Step.refl _ _ _ _))
 | @Bo l s R h ih=>
  intro N code hc ro n Q c w a iq eZ hk
  cases hc with
  | ops h=>exact wpIn_region_list (ih N _ _ h ro n Q c w a iq eZ hk)
 | @seq a b s R1 R h k hs pM qF=>
  intro N code hc ro n Q c w a iq eZ hk
  cases hc with
  | seq h1 h2=>
   refine wpIn_seq (pM N _ h1 ro n _ c w a iq eZ fun o c' w' a' hR nS hle pJ fm=>?_)
   cases o with
   | norm s'=>
    have HJ:s'.gZ=s.gZ:=nS
    refine qF s' hR N _ h2 ro n Q c' w' a' (fun h=>iq (by rw[← HJ];exact h)) pJ ?_
    rw[HJ]
    exact hk.mono fm hle
   | exit id s'=>exact hk _ c' w' a' (hs _ hR rfl) nS hle pJ fm
   | ret s'=>exact hk _ c' w' a' (hs _ hR rfl) nS hle pJ fm
 | @cond c a b s x R hc h ih=>
  intro N code nO ro n Q c w a iq eZ hk
  cases nO with
  | @cond cx ca cb _ _ _ hx h1 h2=>
   have hr:=ia eZ.eZ eZ.env hx
   rw[hc]at hr
   have he:a.eval cx = .bool x:=by
    generalize a.eval cx=u at hr
    cases hr;rfl
   refine wpIn_cond he ?_
   cases x
   ·exact ih N _ h2 ro n Q c w a iq eZ hk
   ·exact ih N _ h1 ro n Q c w a iq eZ hk
 | @block id live a s R1 R h k ih=>
  have hlen:∀ s':St,s.H.length≤s'.H.length→s.H.length≤(cut s.H.length live s').H.length:=by
   intro s' h1
   unfold cut
   split
   ·exact h1
   ·dsimp only;rw[IT];simp[iF]
  have QX:∀ s':St,(cut s.H.length live s').gZ=s'.gZ:=by
   intro s'
   unfold cut
   split<;>rfl
  intro N code hc ro n Q c w a iq eZ hk
  cases hc with
  | block h1=>
   refine wpIn_block (ih N _ h1 ro n _ c w a iq eZ fun o c' w' a' hR nS hle pJ fm=>?_)
   have mQ:=k o hR
   cases o with
   | norm s'=>
    obtain⟨c2,me,qg,_⟩:=JN pJ hle live
    exact hk (.norm (cut s.H.length live s')) c2 w' a' mQ ((QX s').trans nS) (hlen s' hle) me (fm.trans qg (Nat.le_refl _))
   | exit vZ s'=>
    by_cases KV:vZ=id
    ·subst KV
     obtain⟨c2,me,qg,_⟩:=JN pJ hle live
     simp only[l7,if_true]at mQ
     have:=hk (.norm (cut s.H.length live s')) c2 w' a' mQ ((QX s').trans nS) (hlen s' hle) me (fm.trans qg (Nat.le_refl _))
     simp only[Out.ex,Exit.inBlock,if_true]at this ⊢
     exact this
    ·simp only[l7,if_neg KV]at mQ
     have:=hk _ c' w' a' mQ nS hle pJ fm
     simp only[Out.ex,Exit.inBlock,if_neg KV]at this ⊢
     exact this
   | ret s'=>exact hk _ c' w' a' mQ nS hle pJ fm
 | @Du s R hR=>
  exact⟨[],s,hR,Nat.le_refl _,rfl,rfl,fun K k0 hK=>⟨[],rfl,rfl,rfl,.nil⟩⟩
 | @Dw e r s d δ R1 R hg h t k ih=>
  obtain⟨rs,s',qc,i1,i2,i4,i3⟩:=ih
  refine⟨_,s',k _ _ qc,Nat.le_trans (Jq δ s.H) i1,i2,i4,fun K k0 hK=>?_⟩
  obtain⟨items,e1,e2,e3,ua⟩:=i3 K (k0+1) hK
  obtain⟨a1,a2⟩:=Jr (T' h) K (Nat.le_trans i1 hK)
  refine⟨⟨k0,e,s.H.length,⟨fX s.env.get s.H e.op,jm s.H.length δ⟩⟩::items,by simp[e1],by simp[e2],by simp[e3,cd],?_⟩
  have hE:Ef (CC P G) s.env.get (s.H++room (K-s.H.length)) e s.H.length ⟨fX s.env.get s.H e.op,jm s.H.length δ⟩ d δ:=by
   have:=Ef.op (C:=CC P G) (f:=s.env.get) (H:=s.H++room (K-s.H.length)) (e:=e) (n:=s.H.length) hg (by rw[T9];exact h) a2
   rwa [Hg]at this
  refine .cons hE ?_
  rw[a1]
  have hp:(put s.env e.dst d).get=lM s.env.get e.dst d:=C1 _ _ _
  rw[← hp]
  exact ua
 | @Dv e r s R1 R hg t k ih=>
  obtain⟨rs,s',qc,i1,i2,i4,i3⟩:=ih
  refine⟨_,s',k _ _ qc,i1,i2,i4,fun K k0 hK=>?_⟩
  obtain⟨items,e1,e2,e3,ua⟩:=i3 K (k0+1) hK
  refine⟨⟨k0,e,0,⟨[],[]⟩⟩::items,by simp[e1],by simp[e2],by simp[e3,cd],.cons (.off hg) ?_⟩
  have hp:(put s.env e.dst (.val undef)).get=lM s.env.get e.dst (.val undef):=C1 _ _ _
  rw[← hp]
  exact ua
 | @Dr e r s f args fn d R0 R1 R hg hc hf hp h h0 hr t k sn ih=>
  obtain⟨rs,s',qc,i1,i2,i4,i3⟩:=ih
  refine⟨_,s',k _ _ qc,i1,i2,i4,fun K k0 hK=>?_⟩
  obtain⟨items,e1,e2,e3,ua⟩:=i3 K (k0+1) hK
  refine⟨⟨k0,e,0,⟨fX s.env.get s.H e.op,[]⟩⟩::items,by simp[e1],by simp[e2],by simp[e3,cd],?_⟩
  obtain⟨func,code,h1,h2,t1,t2,t3,_⟩:=(hT.fn f fn hf).ex
  have hE:Ef (CC P G) s.env.get (s.H++room (K-s.H.length)) e 0 ⟨fX s.env.get s.H e.op,[]⟩ d .no:=by
   have e0:args.map (e7 (fun _=>none) (s.H++room (K-s.H.length)) 40)=args.map (e7 (fun _=>none) s.H 40):=au fun d _=>(C7 40 d).2
   have:=Ef.call (C:=CC P G) (f:=s.env.get) (H:=s.H++room (K-s.H.length)) (e:=e) (n:=0) hg hc (by rw[e0];exact⟨t3,sn.one h0⟩) hr
   rwa [Hg]at this
  refine .cons hE ?_
  have hp:(put s.env e.dst d).get=lM s.env.get e.dst d:=C1 _ _ _
  rw[← hp]
  exact ua
 | @Ds e r s f tS args fn d ob R0 R1 R hg gW ha hf hp h h0 hr t k sn ih=>
  obtain⟨rs,s',qc,i1,i2,i4,i3⟩:=ih
  have hle:s.H.length≤(s.H ++ [ob]).length:=by simp
  refine⟨_,s',k _ _ qc,Nat.le_trans hle i1,i2,i4,fun K k0 hK=>?_⟩
  obtain⟨items,e1,e2,e3,ua⟩:=i3 K (k0+1) hK
  have Lo:Safe s.H (.new ob):=trivial
  obtain⟨a1,a2⟩:=Jr (δ:=.new ob) Lo K (by have:(s.H ++ [ob]).length≤K:=Nat.le_trans i1 hK;simpa[Dl.app,Al.last]using this)
  refine⟨⟨k0,e,s.H.length,⟨fX s.env.get s.H e.op,[(s.H.length,none)]⟩⟩::items,by simp[e1],by simp[e2],by simp[e3,cd],?_⟩
  obtain⟨func,code,h1,h2,t1,t2,t3,_⟩:=(hT.fn f fn hf).ex
  have hE:Ef (CC P G) s.env.get (s.H++room (K-s.H.length)) e s.H.length ⟨fX s.env.get s.H e.op,[(s.H.length,none)]⟩ (jK s.H.length d) (.new ob):=by
   have e0:args.map (e7 (fun _=>none) (s.H++room (K-s.H.length)) 40)=args.map (e7 (fun _=>none) s.H 40):=au fun d _=>(C7 40 d).2
   have:=Ef.callN (C:=CC P G) (f:=s.env.get) (H:=s.H++room (K-s.H.length)) (e:=e) (n:=s.H.length) hg gW ha (by rw[e0];exact⟨t3,sn.one h0⟩) hr a2
   rwa [Hg]at this
  refine .cons hE ?_
  have Jk:kI s.H.length (.new ob) (s.H++room (K-s.H.length))=(s.H ++ [ob])++room (K-(s.H ++ [ob]).length):=a1
  show Tx (CC P G) (lM s.env.get e.dst (jK s.H.length d)) (kI s.H.length (.new ob) (s.H++room (K-s.H.length))) items _ _
  rw[Jk]
  have hp:(put s.env e.dst (jK s.H.length d)).get=lM s.env.get e.dst (jK s.H.length d):=C1 _ _ _
  rw[← hp]
  exact ua
 | @Dt e r s f tS args fn d v R0 R1 R hg gW ha hf hp hS hv gH gj h h0 hr t k sn ih=>
  obtain⟨rs,s',qc,i1,i2,i4,i3⟩:=ih
  have hle:s.H.length≤(s.H.set v .dead).length:=by simp
  refine⟨_,s',k _ _ qc,Nat.le_trans hle i1,i2,i4,fun K k0 hK=>?_⟩
  obtain⟨items,e1,e2,e3,ua⟩:=i3 K (k0+1) hK
  have iV:v<s.H.length:=by
   unfold rowsOf at gH
   split at gH
   ·rename_i q;exact(af.1 q).1
   ·cases gH
  have Lo:Safe s.H (.obj v .dead):=iV
  obtain⟨a1,a2⟩:=Jr (δ:=.obj v .dead) Lo K (by have:(s.H.set v .dead).length≤K:=Nat.le_trans i1 hK;simpa[Dl.app]using this)
  refine⟨⟨k0,e,0,⟨fX s.env.get s.H e.op,[(v,none)]⟩⟩::items,by simp[e1],by simp[e2],by simp[e3,cd],?_⟩
  obtain⟨func,code,h1,h2,t1,t2,t3,_⟩:=(hT.fn f fn hf).ex
  have hE:Ef (CC P G) s.env.get (s.H++room (K-s.H.length)) e 0 ⟨fX s.env.get s.H e.op,[(v,none)]⟩ d (.obj v .dead):=by
   have e0:args.map (e7 (fun _=>none) (s.H++room (K-s.H.length)) 40)=args.map (e7 (fun _=>none) s.H 40):=au fun d _=>(C7 40 d).2
   have e4:args.map (gX (s.H++room (K-s.H.length)) 40)=args.map (gX s.H 40):=au fun d _=>(C7 40 d).1
   have:=Ef.w5 (C:=CC P G) (f:=s.env.get) (H:=s.H++room (K-s.H.length)) (e:=e) (n:=0) (v:=v) hg gW ha (by rw[e4];exact hS) (by rw[e4];exact hv) (by rw[MK];exact gH) (by rw[e0];exact⟨t3,sn.one h0⟩) (by rw[e0];exact gj) hr
   rwa [Hg]at this
  refine .cons hE ?_
  have Jk:kI 0 (.obj v .dead) (s.H++room (K-s.H.length))=(s.H.set v .dead)++room (K-(s.H.set v .dead).length):=a1
  show Tx (CC P G) (lM s.env.get e.dst d) (kI 0 (.obj v .dead) (s.H++room (K-s.H.length))) items _ _
  rw[Jk]
  have hp:(put s.env e.dst d).get=lM s.env.get e.dst d:=C1 _ _ _
  rw[← hp]
  exact ua
 | @kK iW l s R1 R t hp ih=>
  obtain⟨rs,s',qc,i1,i2,i4,i3⟩:=ih
  obtain⟨hp,Xe⟩:=hp rs s' qc
  intro N code hc ro n Q c w a iq eZ hk
  cases hc with
  | @kK _ _ id A ord ue he ho pK=>
   obtain⟨items,e1,e2,e3,xv⟩:=i3 s'.H.length 0 (Nat.le_refl _)
   have hlen:items.length=l.length:=by rw[← e1];simp
   have gj:∀ (ops:List Oper) (l:List ff),n9 P G N A ops=some l→ops.length=l.length∧∀ (i:Nat) (o:Oper) (e:ff),ops[i]? = some o→l[i]? = some e→sT P G N A o=some e:=by
    intro ops
    induction ops with
    | nil=>intro l h;cases h;exact⟨rfl,fun i o e h=>by simp at h⟩
    | cons o r LG=>
     intro l h
     obtain⟨e,l',rfl,h1,h2⟩:=Bp h
     obtain⟨q1,q2⟩:=LG l' h2
     refine⟨by simp[q1],fun i o' e' ho he=>?_⟩
     cases i with
     | zero=>simp at ho he;subst ho;subst he;exact h1
     | succ i=>exact q2 i o' e' (by simpa using ho) (by simpa using he)
   obtain⟨q1,q2⟩:=gj _ _ ue
   have hA:A.size=l.length:=by rw[← q1];simp
   have iw:∀ (i:Nat) (it:l6),items[i]? = some it→it.k=i∧l[i]? = some it.e∧rs[i]? = some it.rc:=by
    intro i it hi
    have gi:=(af.1 hi).1
    refine⟨?_,by rw[← e1];simp[hi],by rw[← e2];simp[hi]⟩
    have:(items.map (·.k))[i]? = some it.k:=by simp[hi]
    rw[e3,List.getElem?_range' (by omega)]at this
    simpa using this.symm
   refine wpIn_region_any hM ?_
   have rm:fr G c s.H { w with drawn:=w.drawn+1 }:=eZ.eZ.oD (jz.drew w)
   have Ch:Step s.H.length c s.H w c s.H { w with drawn:=w.drawn+1 }:=Au _ (jz.drew w)
   have Lr:SX G N c { w with drawn:=w.drawn+1 } s.env.get (s.H++room (s'.H.length-s.H.length)) s.marks a:=
    ⟨S3 rm _,kb.carry (fun _ _ h=>h.ox eZ.eZ.toHeapOK Ch) eZ.env,eZ.size,eZ.marks⟩
   refine Ot (C:=CC P G) (fun g args d Hn h=>h) he ho A.size items _ c _ _ _ a (by omega) ?_ Lr xv ?_ ?_ fun c' w' a' gw fm=>?_
   ·refine⟨by simp,fun j hj=>?_,?_,fun it jw=>?_,fun i hi hl=>?_⟩
    ·refine⟨fun _=>⟨items[j]'(by omega),bF _,(iw j _ (List.getElem?_eq_getElem _)).1⟩,fun _=>by simp[hj]⟩
    ·rw[bq]
     intro i j hi hj xG
     rw[(iw i _ (List.getElem?_eq_getElem hi)).1,(iw j _ (List.getElem?_eq_getElem hj)).1]
     exact xG
    ·obtain⟨i,hi⟩:=aG.1 jw
     have gi:=(af.1 hi).1
     rw[(iw i it hi).1];omega
    ·simp[hi]at hl
   ·intro it jw
    obtain⟨i,hi⟩:=aG.1 jw
    have gi:=(af.1 hi).1
    obtain⟨k1,k2,k3⟩:=iw i it hi
    refine⟨A[i]'(by omega),by rw[k1];simp,q2 i _ _ (by simp) k2⟩
   ·intro p rZ q hq Ca
    obtain⟨i,hi⟩:=aG.1 rZ
    obtain⟨j,hj⟩:=aG.1 hq
    obtain⟨p1,p2,p3⟩:=iw i p hi
    obtain⟨Mv,Mw,q3⟩:=iw j q hj
    rw[p1,Mv]at Ca ⊢
    have gi:=(af.1 hj).1
    have:=ar.1 (ar.1 pK j (bC.2 (by omega))) i (bC.2 Ca)
    simp only[p2,Mw,bP,ah,cV]at this
    rcases this with h|⟨h1,h2⟩
    ·exact .inl h
    ·refine .inr ⟨h1,?_⟩
     rcases h2 with h2|h2
     ·have:=ar.1 hp (i,j) h2
      simp only[p3,q3]at this
      exact this
     ·obtain⟨_,_,_,_,E1⟩:=xv.each p rZ
      obtain⟨_,_,_,_,E2⟩:=xv.each q hq
      exact Ts E1 E2 h2
   ·simp only[eR,room,List.replicate_zero,aA]at gw fm
    refine hk _ c' w' a' Xe i4 i1 ⟨gw.eZ,gw.env,gw.size,by show pE c' s'.marks _;rw[i2];exact gw.marks⟩ ?_
    have h1:=Ch.trans (S4 (c:=c) (w:={ w with drawn:=w.drawn+1 }) (H:=s.H) (s'.H.length-s.H.length) s.H.length) (Nat.le_refl _)
    exact h1.trans fm (by simp)
 | @lP iW l es s R1 R t hp k ih uC=>
  obtain⟨rs,s',qc,i1,i2,i4,i3⟩:=ih
  have hp:=hp rs s' qc
  have uC:=uC rs s' qc
  intro N code hc ro n Q c w a iq eZ hk
  cases hc with
  | @lP _ _ _ id A ord ue he ho pK vM=>
   obtain⟨items,e1,e2,e3,xv⟩:=i3 s'.H.length 0 (Nat.le_refl _)
   have hlen:items.length=l.length:=by rw[← e1];simp
   obtain⟨o1,o2,Kp,c1,c2⟩:=O6 ue
   obtain⟨q1,q2⟩:=O7 c1
   obtain⟨q3,_⟩:=O7 c2
   have hA:A.size=l.length+es.length:=by rw[← cM,Kp,az,q1,q3]
   have W7:∀ i,i<l.length→A[i]? = o1[i]? := fun i hi=>by
    rw[← bn,Kp,ag (by omega)]
   have W8:∀ i,A[l.length+i]? = o2[i]? := fun i=>by
    rw[← bn,Kp,ao (by omega)]
    congr 1;omega
   have iw:∀ (i:Nat) (it:l6),items[i]? = some it→it.k=i∧l[i]? = some it.e∧rs[i]? = some it.rc∧i<l.length:=by
    intro i it hi
    have gi:=(af.1 hi).1
    refine⟨?_,by rw[← e1];simp[hi],by rw[← e2];simp[hi],by omega⟩
    have:(items.map (·.k))[i]? = some it.k:=by simp[hi]
    rw[e3,List.getElem?_range' (by omega)]at this
    simpa using this.symm
   refine wpIn_region_any hM ?_
   have rm:fr G c s.H { w with drawn:=w.drawn+1 }:=eZ.eZ.oD (jz.drew w)
   have Ch:Step s.H.length c s.H w c s.H { w with drawn:=w.drawn+1 }:=Au _ (jz.drew w)
   have Lr:SX G N c { w with drawn:=w.drawn+1 } s.env.get (s.H++room (s'.H.length-s.H.length)) s.marks a:=
    ⟨S3 rm _,kb.carry (fun _ _ h=>h.ox eZ.eZ.toHeapOK Ch) eZ.env,eZ.size,eZ.marks⟩
   have HC:∀ q∈(es.zipIdx l.length).map (fun p=>(⟨p.2,p.1,0,⟨[],[]⟩⟩:l6)),l.length≤q.k∧q.k<l.length+es.length:=fun q hq=>by
    obtain⟨p,rZ,rfl⟩:=aw.1 hq
    obtain⟨x,y⟩:=p
    have:=List.mem_zipIdx rZ
    exact⟨this.1,by show y<_;omega⟩
   have zI:((es.zipIdx l.length).map (fun p=>(⟨p.2,p.1,0,⟨[],[]⟩⟩:l6))).length=es.length:=by simp
   rw[show A.size=items.length+((es.zipIdx l.length).map (fun p=>(⟨p.2,p.1,0,⟨[],[]⟩⟩:l6))).length by rw[zI];omega]
   refine Ou (C:=CC P G) (fun g args d Hn h=>h) he ho (lasts:=(es.zipIdx l.length).map fun p=>⟨p.2,p.1,0,⟨[],[]⟩⟩) (ops:=o2) (fun q hq k hk=>vM q.k (HC q hq).1 (by simp;exact(HC q hq).2) k hk) ?_ items.length items _ c _ _ _ a rfl ?_ Lr xv ?_ ?_ fun c' w' a' gw fm=>?_
   ·refine bM fun i=>?_
    simp only[cv,aq,List.getElem?_zipIdx]
    cases h:es[i]? with
    | none=>
     have:es.length≤i:=by simpa using h
     simp[aQ (l:=o2) (i:=i) (by omega)]
    | some e=>
     have:=(af.1 h).1
     simp[W8,List.getElem?_eq_getElem (l:=o2) (i:=i) (by omega)]
   ·refine⟨by simp;omega,fun j hj=>?_,?_,fun it jw=>?_,fun i hi hl=>?_⟩
    ·refine⟨fun _=>?_,fun _=>by rw[zI];simp[show j<items.length+es.length by omega]⟩
     by_cases mP:j<l.length
     ·exact⟨items[j]'(by omega),bg _ (bF _),(iw j _ (List.getElem?_eq_getElem _)).1⟩
     ·refine⟨⟨j,es[j-l.length]'(by omega),0,⟨[],[]⟩⟩,bz _ (aw.2 ⟨(es[j-l.length]'(by omega),j),?_,rfl⟩),rfl⟩
      rw[List.mem_zipIdx_iff_le_and_getElem?_sub]
      exact⟨by omega,by simp⟩
    ·refine bK.2 ⟨?_,?_,fun p rZ q hq=>?_⟩
     ·rw[bq]
      intro i j hi hj xG
      rw[(iw i _ (List.getElem?_eq_getElem hi)).1,(iw j _ (List.getElem?_eq_getElem hj)).1]
      exact xG
     ·rw[bq]
      intro i j hi hj xG
      simp
      omega
     ·obtain⟨i,hi⟩:=aG.1 rZ
      have h1:=iw i p hi
      have h2:=HC q hq
      omega
    ·rcases List.mem_append.1 jw with jw|jw
     ·obtain⟨i,hi⟩:=aG.1 jw
      have:=iw i it hi
      omega
     ·have:=HC it jw;omega
    ·rw[zI]at hl
     have:i<items.length+es.length:=by omega
     simp[this]at hl
   ·intro it jw
    obtain⟨i,hi⟩:=aG.1 jw
    obtain⟨k1,k2,k3,k4⟩:=iw i it hi
    have h1:o1[i]? = some (o1[i]'(by omega)):=List.getElem?_eq_getElem _
    exact⟨o1[i]'(by omega),by rw[k1,W7 i k4,h1],q2 i _ _ h1 k2⟩
   ·intro p rZ q hq Ca
    obtain⟨i,hi⟩:=aG.1 rZ
    obtain⟨j,hj⟩:=aG.1 hq
    obtain⟨p1,p2,p3,p4⟩:=iw i p hi
    obtain⟨Mv,Mw,q3,q4⟩:=iw j q hj
    rw[p1,Mv]at Ca ⊢
    have:=ar.1 (ar.1 pK j (bC.2 (by simp;omega))) i (bC.2 Ca)
    simp only[ag p4,ag q4,p2,Mw,bP,ah,cV]at this
    rcases this with h|⟨h1,h2⟩
    ·exact .inl h
    ·refine .inr ⟨h1,?_⟩
     rcases h2 with h2|h2
     ·have:=ar.1 hp (i,j) h2
      simp only[p3,q3]at this
      exact this
     ·obtain⟨_,_,_,_,E1⟩:=xv.each p rZ
      obtain⟨_,_,_,_,E2⟩:=xv.each q hq
      exact Ts E1 E2 h2
   ·simp only[eR,room,List.replicate_zero,aA]at gw fm
    have h1:=Ch.trans (S4 (c:=c) (w:={ w with drawn:=w.drawn+1 }) (H:=s.H) (s'.H.length-s.H.length) s.H.length) (Nat.le_refl _)
    have h2:=h1.trans fm (by simp)
    exact uC N A o2 c2 ro n Q c' w' a' (by rw[i4];exact iq) ⟨gw.eZ,gw.env,gw.size,by show pE c' s'.marks _;rw[i2];exact gw.marks⟩ (by rw[i4];exact hk.mono h2 i1)
 | @loop live a s R h ih=>
  intro N code hc ro n Q c w a iq eZ hk
  cases hc with
  | loop h1=>exact agT (ih (Nat.le_refl _) N _ h1 ro n Q c w a iq ⟨eZ.eZ,zi eZ.env live,eZ.size,eZ.marks⟩ hk)
 | @we n0 live a s R1 R h k hs pM qF=>
  intro hn N code hc ro n Q c w a iq eZ hk
  refine Z4 (pM N _ hc ro n _ c w a iq eZ fun o c' w' a' hR nS hle pJ fm=>?_)
  cases o with
  | norm s'=>
   have QD:n0≤s'.H.length:=Nat.le_trans hn hle
   have XD:n0≤(cut n0 live s').H.length:=by
    unfold cut
    split
    ·exact QD
    ·dsimp only;rw[IT];simp[iF]
   have Cd:(cut n0 live s').gZ=s.gZ:=by
    have HJ:s'.gZ=s.gZ:=nS
    unfold cut
    split<;>exact HJ
   obtain⟨c2,me,qg,_⟩:=JN pJ QD live
   refine qF s' hR XD N _ hc ro n Q c2 w' a' (fun h=>iq (by rw[← Cd];exact h)) me ?_
   rw[Cd]
   exact hk.mono ((fm.weaken hn).trans qg (Nat.le_refl _)) (Nat.le_refl _)
  | exit id s'=>exact hk _ c' w' a' (hs _ hR rfl) nS (Nat.le_trans hn hle) pJ (fm.weaken hn)
  | ret s'=>exact hk _ c' w' a' (hs _ hR rfl) nS (Nat.le_trans hn hle) pJ (fm.weaken hn)
 | @lZ rf live x s f first cap fn R1 R nS hx hf hp h k ih=>
  intro N code hc ro n Q c w a iq eZ hk
  have Yu:=iq nS
  subst Yu
  cases hc with
  | lZ YL rT=>
   obtain⟨func,code,h1,h2,t1,t2,t3,_⟩:=(hT.fn f fn hf).ex
   exact agW eZ YL hx t3 rT (live:=live) (R1:=Ay R1) (R:=outs R) ih k hk
 | @exit id s R h=>
  intro N code hc ro n Q c w a iq eZ hk
  cases hc
  exact wpIn_exit (hk _ c w a h rfl (Nat.le_refl _) eZ (Step.refl _ _ _ _))
 | @ret s R h=>
  intro N code hc ro n Q c w a iq eZ hk
  cases hc
  exact wpIn_ret (hk _ c w a h rfl (Nat.le_refl _) eZ (Step.refl _ _ _ _))
 | @call f args H fn R1 R own hf hl h k ih=>
  intro c w vs eZ iy
  obtain⟨func,code,hs,gw,t1,t2,t3,t7,t4,t5,t6⟩:=(hT.fn f fn hf).ex
  have Cd:=afl hT.rt t1 t2 t7
  rw[t5]at Cd
  refine callsIn_wide (n:=0) |>.1 (callsIn_of_wp_marks (F:=FW none) t1 t2 trivial (ih fn.ntmps code (Jy Cd t4) none 0 _ c w _ (fun _=>rfl) ⟨eZ,Vz iy _,?_,.nil⟩ ?_))
  ·simp;omega
  ·intro o c' w' a' hR nS hle mH fm
   obtain⟨d,H',lD,Xf⟩:=k o hR
   have main:∀ s:St,o.st=s→∀ H1,kill s.marks s.H=some H1→∀ d0,AL.results fn { s with H:=H1 }=some d0→leave own H.length H1 d0=(d,H') →
     LeavesInM (FW none) 0 P func a'.tmps (fun e w'=>∃ v c' d H',e = .returned v∧Ay R d H'∧H.length≤H'.length∧fr G c' H' w'∧eW c' w' v d∧Step H.length c H w c' H' w') a'.defers .returning w':=by
    rintro s rfl H1 XX d0 zQ X3
    refine ZQ mH.marks mH.eZ XX fun w1 q1 q2 q3=>?_
    have HK:kz G fn.ntmps c' w1 { o.st with H:=H1,marks:=[] } { a' with defers:=[] }:=⟨q1,fun j=>(mH.env j).ox mH.eZ.toHeapOK q2,mH.size,.nil⟩
    obtain⟨v,hv,Cj⟩:=afz HK t6 (d:=d0) (by rw[← zQ];exact afy { o.st with H:=H1 } [])
    have X1:H.length≤H1.length:=by rw[q3];exact hle
    obtain⟨c2,k1,k2,k3,k4⟩:=ZP q1 X1 own Cj
    rw[X3]at k1 k2 k3 k4
    exact⟨v,hv,v,c2,d,H',rfl,Xf,k4,k1,k2,(fm.trans q2 hle).trans k3 (Nat.le_refl _)⟩
   have pj:∀ s:St,finish fn own H.length (.norm s)=some (d,H')→∃ H1,kill s.marks s.H=some H1∧∃ d0,AL.results fn { s with H:=H1 }=some d0∧leave own H.length H1 d0=(d,H'):=by
    intro s hf
    simp only[finish]at hf
    split at hf
    ·rename_i H1 mQ
     split at hf
     ·rename_i d0 km
      exact⟨H1,mQ,d0,km,cA hf⟩
     ·cases hf
    ·cases hf
   cases o with
   | norm s=>
    obtain⟨H1,q1,d0,q2,q3⟩:=pj s lD
    exact main s rfl H1 q1 d0 q2 q3
   | ret s=>
    obtain⟨H1,q1,d0,q2,q3⟩:=pj s lD
    exact main s rfl H1 q1 d0 q2 q3
   | exit id s=>cases lD
end
end Go.AL
namespace Go.AL
open Go
def G3:Value→Value→Bool
 | .int k a,.int k' b=>decide (k=k')&&decide (a=b)
 | .bool a,.bool b=>a == b
 | .string a,.string b=>decide (a.data.toList=b.data.toList)
 | .nilFunc,.nilFunc=>true
 | .tuple a,.tuple b=>a.toList.isEmpty&&b.toList.isEmpty
 | _,_=>false
mutual
def nM:D→D→Bool
 | .any,.any=>true
 | .val a,.val b=>G3 a b
 | .agg a,.agg b=>qu a b
 | .tup a,.tup b=>qu a b
 | .sl n a,.sl m b=>decide (n=m)&&zj a b
 | .eU,.eU=>true
 | .eX a b c d e,.eX a' b' c' d' e'=>decide (a=a')&&decide (b=b')&&decide (c=c')&&decide (d=d')&&decide (e=e')
 | .ptr a b c,.ptr a' b' c'=>decide (a=a')&&decide (b=b')&&decide (c=c')
 | .fj a,.fj b=>qu a b
 | .gF a,.gF b=>decide (a=b)
 | .iA a,.iA b=>decide (a=b)
 | .fn (.func f) a b,.fn (.func f') a' b'=>decide (f=f')&&qu a a'&&qu b b'
 | _,_=>false
def qu:List D→List D→Bool
 | [],[]=>true
 | a::l,b::m=>nM a b&&qu l m
 | _,_=>false
def zj:List (List D)→List (List D)→Bool
 | [],[]=>true
 | a::l,b::m=>qu a b&&zj l m
 | _,_=>false
end
def xc:Env→Env→Bool
 | [],[]=>true
 | (i,a)::l,(j,b)::m=>decide (i=j)&&nM a b&&xc l m
 | _,_=>false
def zk:List (Value×D)→List (Value×D)→Bool
 | [],[]=>true
 | (i,a)::l,(j,b)::m=>G3 i j&&nM a b&&zk l m
 | _,_=>false
def JV:Ob→Ob→Bool
 | .row t g a,.row t' g' b=>decide (t=t')&&decide (g=g')&&qu a b
 | .map k a,.map k' b=>decide (k=k')&&zk a b
 | .gL r e s,.gL r' e' s'=>decide (r=r')&&xc e e'&&decide (s=s')
 | .qn a p,.qn b q=>decide (a.data.toList=b.data.toList)&&decide (p=q)
 | .lL m s l,.lL m' s' l'=>nM m m'&&decide (s=s')&&decide (l=l')
 | .kJ,.kJ=>true
 | .dead,.dead=>true
 | .kZ,.kZ=>true
 | _,_=>false
def xd:U→U→Bool
 | [],[]=>true
 | a::l,b::m=>JV a b&&xd l m
 | _,_=>false
def Bv(s t:St):Bool:=xc s.env t.env&&xd s.H t.H&&decide (s.marks=t.marks)&&(s.gZ == t.gZ)
def JW:Out→Out→Bool
 | .norm s,.norm t=>Bv s t
 | .exit i s,.exit j t=>decide (i=j)&&Bv s t
 | .ret s,.ret t=>Bv s t
 | _,_=>false
def JX(a b:D×U):Bool:=nM a.1 b.1&&xd a.2 b.2
def once{α:Type}(eq:α→α→Bool):List α→List α
 | []=>[]
 | [a]=>[a]
 | a::l=>let m:=once eq l;if m.any (eq a)then m else a::m
def pW{α β:Type}:List α→(α→Option (List β))→Option (List β)
 | [],_=>some []
 | [a],f=>f a
 | a::l,f=>match f a,pW l f with
  | some x,some y=>some (x++y)
  | _,_=>none
abbrev u0:=FuncId→List D→U→Option (List (D×U))
abbrev yL:=IR→St→Option (List Out)
def refsOf(s:St)(args:List D):List Nat:=dedup (args.map (gX s.H 40)).flatten
def IH(cl:u0)(e:ff)(f:FuncId)(s:St):Option (List St):=
 match jN s.env.get e.op with
 | none=>none
 | some (f',args)=>if f'=f then(match cl f (args.map (e7 (fun _=>none) s.H 40)) []with
  | some l=>pW l fun p=>match after s e.dst args p.1 p.2 with
   | some s'=>some [s']
   | none=>none
  | none=>none)else none
def ML(T:gP)(cl:u0)(e:ff)(s:St):Option (List St):=
 match jN s.env.get e.op with
 | none=>none
 | some (f,args)=>match T.fn f with
  | none=>none
  | some fn=>
   match fn.full with
   | true=>match cl f args s.H with
    | some l=>some (l.map fun p=>{ s with env:=put s.env e.dst p.1,H:=p.2 })
    | none=>none
   | false=>if fn.fz&&s.marks.isEmpty && !fE args then IH cl e f (kX (refsOf s args) s)else IH cl e f s
def MP(T:gP)(rd:yL)(e:ff)(s:St)(v:Nat)(args:List D):Option (List St):=
 match s.H[v]? with
 | some (.gL rf env0 .ready)=>match T.round rf with
  | some Rd=>if args.length=Rd.params.length then
    match rd Rd.a { env:=qQ Rd.params args env0,H:=s.H,gZ:=true }with
    | some la=>match pW la fun o=>match o with
      | .norm s1=>match s1.H[v]? with
       | some (.gL SS kA .ready)=>if SS=rf then rd Rd.b { s1 with H:=s1.H.set v (.gL rf kA .busy) }else none
       | _=>none
      | _=>none with
     | some lb=>pW lb fun o=>match o.st.H[v]? with
      | some (.gL SU kj .busy)=>if SU=rf then some [{ s with env:=put s.env e.dst (.b !o.stop),H:=o.st.H.set v (.gL rf kj o.wA) }]else none
      | _=>none
     | none=>none
    | none=>none
   else none
  | none=>none
 | _=>none
def MO(e:ff)(s:St)(x:X):Option (List St):=
 match ev s.env.get x with
 | .ptr v 0 0=>match s.H[v]? with
  | some (.lL (.gF m) since seen)=>match s.H[m]? with
   | some (.map _ es)=>if es.length=since then
     let left:=(List.range es.length).filter fun i => !seen.contains i
     if left.isEmpty then some [{ s with env:=put s.env e.dst (.tup [.b false]) }]else
      some (left.filterMap fun i=>match es[i]? with
       | some (k,d)=>some { s with env:=put s.env e.dst (.tup [.b true,ru k,d]),H:=s.H.set v (.lL (.gF m) since (seen ++ [i])) }
       | none=>none)
    else none
   | _=>none
  | _=>none
 | _=>none
def tw(T:gP)(cl:u0)(rd:yL):List ff→St→Option (List St)
 | [],s=>some [s]
 | e::r,s=>match guardOf s.env.get e.guard with
  | none=>none
  | some false=>tw T cl rd r { s with env:=put s.env e.dst (.val undef) }
  | some true=>match fO s.env.get s.H s.H.length e.op with
   | some (d,δ)=>tw T cl rd r { s with env:=put s.env e.dst d,H:=δ.app s.H (Al.last s.H) }
   | none=>match lu s.env.get s.H s.H.length e.op with
    | some (d,δ)=>tw T cl rd r { s with env:=put s.env e.dst d,H:=δ.app s.H (Al.last s.H) }
    | none=>match e.op with
     | .nextM x=>match MO e s x with
      | some l=>pW l fun s'=>tw T cl rd r s'
      | none=>none
     | _=>match yieldOf s.env.get e.op with
      | some (v,args)=>match MP T rd e s v args with
       | some l=>pW l fun s'=>tw T cl rd r s'
       | none=>none
      | none=>match jN s.env.get e.op with
       | none=>none
       | some _=>match ML T cl e s with
        | some l=>pW l fun s'=>tw T cl rd r s'
        | none=>none
def Y':ij→Bool
 | .callN _ _=>true
 | _=>false
def uQ(T:gP)(cl:u0)(st:Bool):List ff→St→Option (List Rc×St)
 | [],s=>some ([],s)
 | e::r,s=>match guardOf s.env.get e.guard with
  | none=>none
  | some false=>match uQ T cl st r { s with env:=put s.env e.dst (.val undef) }with
   | some (rs,s')=>some (⟨[],[]⟩::rs,s')
   | none=>none
  | some true=>match fO s.env.get s.H s.H.length e.op with
   | some (d,δ)=>match uQ T cl st r { s with env:=put s.env e.dst d,H:=δ.app s.H (Al.last s.H) }with
    | some (rs,s')=>some (⟨fX s.env.get s.H e.op,jm s.H.length δ⟩::rs,s')
    | none=>none
   | none=>match jN s.env.get e.op with
    | none=>none
    | some (f,args)=>match T.fn f with
     | none=>none
     | some fn=>if fn.full||(st&&fn.fz && !fE args && !Y' e.op)then none else match cl f (args.map (e7 (fun _=>none) s.H 40)) []with
      | some [(d,[])]=>if (if fE args then closed d else flat d)then(match uQ T cl st r { s with env:=put s.env e.dst d }with
       | some (rs,s')=>some (⟨fX s.env.get s.H e.op,[]⟩::rs,s')
       | none=>none)else(match e.op with
       | .callN _ _=>match (args.map (gX s.H 40)).flatten with
        | v::l=>if (l.all fun u=>decide (u=v))&&(rowsOf s.H v).isSome&&fE (args.map (e7 (fun _=>none) s.H 40))&&closed d then(match uQ T cl st r { s with env:=put s.env e.dst d,H:=s.H.set v .dead }with
         | some (rs,s')=>some (⟨fX s.env.get s.H e.op,[(v,none)]⟩::rs,s')
         | none=>none)else none
        | []=>none
       | _=>none)
      | some [(d,[ob])]=>match e.op with
       | .callN _ _=>if (if fE args then lU d&&mL ob else np d&&oe ob)then(match uQ T cl st r { s with env:=put s.env e.dst (jK s.H.length d),H:=s.H ++ [ob] }with
        | some (rs,s')=>some (⟨fX s.env.get s.H e.op,[(s.H.length,none)]⟩::rs,s')
        | none=>none)else none
       | _=>none
      | _=>none
def pA(T:gP)(cl:u0)(lp:Nat→List Nat→IR→St→Option (List Out))(rd:yL):IR→St→Option (List Out)
 | .skip,s=>some [.norm s]
 | .ops l,s=>match tw T cl rd l s with
  | some l=>some (l.map .norm)
  | none=>none
 | .kK iW l,s=>match uQ T cl true l s with
  | some (rs,s')=>if sv iW rs then some [.norm s']else none
  | none=>if s.marks.isEmpty then(match uQ T cl false l (kX (List.range s.H.length) s)with
   | some (rs,s')=>if sv iW rs then some [.norm s']else none
   | none=>none)else none
 | .lP ..,_=>none
 | .seq a b,s=>match pA T cl lp rd a s with
  | some l=>pW l fun o=>match o with
   | .norm s'=>pA T cl lp rd b s'
   | o=>some [o]
  | none=>none
 | .cond c a b,s=>match ev s.env.get c with
  | .val (.bool true)=>pA T cl lp rd a s
  | .val (.bool false)=>pA T cl lp rd b s
  | _=>none
 | .block id live a,s=>match pA T cl lp rd a s with
  | some l=>some (once JW (l.map (l7 id s.H.length live)))
  | none=>none
 | .loop live a,s=>lp s.H.length live a { s with env:=forget live s.env }
 | .lZ rf live x,s=>if s.gZ then none else match ev s.env.get x with
  | .fn (.func f) first cap=>match T.fn f with
   | some fn=>if fn.full then
     match cl f (first ++ [.iA (s.H.length+1)]++cap) (s.H ++ [.kJ,.gL rf (forget live s.env) .ready])with
     | some l=>pW l fun p=>match p.2[s.H.length+1]? with
      | some (.gL SR _ st)=>if SR=rf then(match ym { s with H:=p.2.set (s.H.length+1) .dead,marks:=s.H.length::s.marks } st with
       | some o=>some [o]
       | none=>none)else none
      | _=>none
     | none=>none
    else none
   | none=>none
  | _=>none
 | .exit id,s=>some [.exit id s]
 | .ret,s=>some [.ret s]
 | .bad,_=>none
 | .fz _ _,_=>none
 | .rR _ _ _,_=>none
abbrev sI:=List (FuncId×List D×List (D×U))
def C4:sI→FuncId→List D→Option (List (D×U))
 | [],_,_=>none
 | (g,tS,l)::M,f,args=>match Nat.beq g f with
  | true=>match qu tS args with
   | true=>some l
   | false=>C4 M f args
  | false=>C4 M f args
def known(M:sI)(f:FuncId)(args:List D):U→Option (List (D×U))
 | []=>C4 M f args
 | _=>none
mutual
def yy(T:gP)(M:sI):Nat→Nat→List Nat→IR→St→Option (List Out)
 | 0,_,_,_,_=>none
 | k+1,n,live,a,s=>match pA T (run T M k) (yy T M k) (Ak T M k) a s with
  | some l=>pW l fun o=>match o with
   | .norm s'=>yy T M k n live a (cut n live s')
   | o=>some [o]
  | none=>none
def Ak(T:gP)(M:sI):Nat→yL
 | 0,_,_=>none
 | k+1,c,s=>pA T (run T M k) (yy T M k) (Ak T M k) c s
def run(T:gP)(M:sI):Nat→u0
 | 0,_,_,_=>none
 | k+1,f,args,H=>match known M f args H with
  | some l=>some l
  | none=>match T.fn f with
  | none=>none
  | some fn=>if args.length≤fn.ntmps then(match pA T (run T M k) (yy T M k) (Ak T M k) fn.body { env:=qI args,H:=H }with
   | some l=>match pW l fun o=>match finish fn fn.own H.length o with
     | some p=>some [p]
     | none=>none with
    | some ps=>some (once JX ps)
    | none=>none
   | none=>none)else none
end
end Go.AL
namespace Go.AL
open Go
def Pt{a b:Value}(h:G3 a b=true):a=b:=by
 unfold G3 at h
 split at h
 ·simp only[ah,decide_eq_true_eq]at h;rw[h.1,h.2]
 ·simp only[beq_iff_eq]at h;rw[h]
 ·rename_i a b
  simp only[decide_eq_true_eq]at h
  have:a=b:=by
   cases a;cases b
   congr 1
   exact ea h
  rw[this]
 ·rfl
 ·simp only[ah,cK]at h
  rw[show _ = #[]from ea h.1,show _ = #[]from ea h.2]
 ·cases h
mutual
theorem Bu:∀ {a b:D},nM a b=true→a=b
 | .any,b,h=>by cases b<;>simp[nM]at h ⊢
 | .val a,b,h=>by
  cases b<;>simp[nM]at h ⊢
  exact Pt h
 | .agg a,b,h=>by
  cases b<;>simp[nM]at h ⊢
  exact tY h
 | .tup a,b,h=>by
  cases b<;>simp[nM]at h ⊢
  exact tY h
 | .sl n a,b,h=>by
  cases b<;>simp[nM]at h ⊢
  exact⟨h.1,Po h.2⟩
 | .eU,b,h=>by cases b<;>simp[nM]at h ⊢
 | .lA _,b,h=>by cases b<;>simp[nM]at h
 | .eX a1 a2 a3 a4 a5,b,h=>by
  cases b<;>simp[nM]at h ⊢
  simp[h]
 | .ptr a1 a2 a3,b,h=>by
  cases b<;>simp[nM]at h ⊢
  simp[h]
 | .fj a,b,h=>by
  cases b<;>simp[nM]at h ⊢
  exact tY h
 | .gF a,b,h=>by cases b<;>simp[nM]at h ⊢;exact h
 | .iA a,b,h=>by cases b<;>simp[nM]at h ⊢;exact h
 | .fn f a a',b,h=>by
  cases f<;>cases b<;>first|(simp[nM]at h;done)|skip
  rename_i f g b b'
  cases g<;>simp[nM]at h ⊢
  exact⟨h.1.1,tY h.1.2,tY h.2⟩
theorem tY:∀ {a b:List D},qu a b=true→a=b
 | [],[],_=>rfl
 | a::l,b::m,h=>by
  simp only[qu,ah]at h
  rw[Bu h.1,tY h.2]
 | [],_::_,h=>by simp[qu]at h
 | _::_,[],h=>by simp[qu]at h
theorem Po:∀ {a b:List (List D)},zj a b=true→a=b
 | [],[],_=>rfl
 | a::l,b::m,h=>by
  simp only[zj,ah]at h
  rw[tY h.1,Po h.2]
 | [],_::_,h=>by simp[zj]at h
 | _::_,[],h=>by simp[zj]at h
end
theorem JT:∀ {a b:Env},xc a b=true→a=b
 | [],[],_=>rfl
 | (i,a)::l,(j,b)::m,h=>by
  simp only[xc,ah,decide_eq_true_eq]at h
  rw[h.1.1,Bu h.1.2,JT h.2]
 | [],_::_,h=>by simp[xc]at h
 | _::_,[],h=>by simp[xc]at h
theorem Pp:∀ {a b:List (Value×D)},zk a b=true→a=b
 | [],[],_=>rfl
 | (i,a)::l,(j,b)::m,h=>by
  simp only[zk,ah]at h
  rw[Pt h.1.1,Bu h.1.2,Pp h.2]
 | [],_::_,h=>by simp[zk]at h
 | _::_,[],h=>by simp[zk]at h
def VA{a b:Ob}(h:JV a b=true):a=b:=by
 unfold JV at h
 split at h
 ·simp only[ah,decide_eq_true_eq]at h;rw[h.1.1,h.1.2,tY h.2]
 ·simp only[ah,decide_eq_true_eq]at h;rw[h.1,Pp h.2]
 ·simp only[ah,decide_eq_true_eq]at h;rw[h.1.1,JT h.1.2,h.2]
 ·rename_i a p b q
  simp only[ah,decide_eq_true_eq]at h
  have:a=b:=by
   cases a;cases b
   congr 1
   exact ea h.1
  rw[this,h.2]
 ·simp only[ah,decide_eq_true_eq]at h;rw[Bu h.1.1,h.1.2,h.2]
 ·rfl
 ·rfl
 ·rfl
 ·cases h
theorem JU:∀ {a b:U},xd a b=true→a=b
 | [],[],_=>rfl
 | a::l,b::m,h=>by
  simp only[xd,ah]at h
  rw[VA h.1,JU h.2]
 | [],_::_,h=>by simp[xd]at h
 | _::_,[],h=>by simp[xd]at h
def JY{a b:St}(h:Bv a b=true):a=b:=by
 obtain⟨e,H,m,r⟩:=a
 obtain⟨e',H',m',r'⟩:=b
 simp only[Bv,ah,decide_eq_true_eq,beq_iff_eq]at h
 obtain⟨⟨⟨h1,h2⟩,h3⟩,h4⟩:=h
 rw[JT h1,JU h2,h3,h4]
def VC{a b:Out}(h:JW a b=true):a=b:=by
 unfold JW at h
 split at h
 ·rw[JY h]
 ·simp only[ah,decide_eq_true_eq]at h;rw[h.1,JY h.2]
 ·rw[JY h]
 ·cases h
def VD{a b:D×U}(h:JX a b=true):a=b:=by
 simp only[JX,ah]at h
 exact cS (Bu h.1) (JU h.2)
theorem Iv{α:Type}{eq:α→α→Bool}(h:∀ a b,eq a b=true→a=b):∀ {l:List α} {a:α},a∈l→a∈once eq l
 | [a],b,hb=>hb
 | a::b::l,c,hc=>by
  rw[once]
  ·split
   ·rename_i Xm
    rcases av.1 hc with rfl|hc
    ·obtain⟨d,hd,KN⟩:=List.any_eq_true.1 Xm
     rw[h _ _ KN];exact hd
    ·exact Iv h hc
   ·rcases av.1 hc with rfl|hc
    ·exact dR
    ·exact aS _ (Iv h hc)
  ·intro e;cases e
theorem tR{α β:Type}{f:α→Option (List β)}:∀ {l:List α} {r:List β},pW l f=some r→∀ a∈l,∃ y,f a=some y∧∀ b∈y,b∈r
 | [],r,_,a,ha=>by simp at ha
 | [a],r,h,b,hb=>by
  simp only[List.mem_singleton]at hb
  subst hb
  exact⟨r,h,fun _ h=>h⟩
 | a::b::l,r,h,c,hc=>by
  rw[pW]at h
  ·split at h
   ·rename_i x y hx hy
    cases h
    rcases av.1 hc with rfl|hc
    ·exact⟨x,hx,fun _ h=>bg _ h⟩
    ·obtain⟨z,hz,YW⟩:=tR hy c hc
     exact⟨z,hz,fun d hd=>bz _ (YW d hd)⟩
   ·cases h
  ·intro e;cases e
section
variable{T:gP}{cl:u0}{rd:yL}
def sH(l:List Out):n4→Prop:=fun r=>∃ o∈l,r = .out o
def A0(l:List St):n4→Prop:=fun r=>∃ s∈l,r = .out (.norm s)
def ki(l:List (D×U)):n4→Prop:=fun r=>∃ p∈l,r = .val p.1 p.2
def pC(T:gP)(cl:u0):Prop:=∀ f args H l,cl f args H=some l→Ev T (.call f args H) (ki l)
def Gi(T:gP)(rd:yL):Prop:=∀ c s l,rd c s=some l→Ev T (.code c s) (sH l)
theorem sH.out{l:List Out}{o:Out}(h:sH l (.out o)):o∈l:=by
 obtain⟨o',h1,h2⟩:=h
 cases h2;exact h1
theorem ki.val{l:List (D×U)}{d:D}{H:U}(h:ki l (.val d H)):(d,H)∈l:=by
 obtain⟨o',h1,h2⟩:=h
 cases h2;exact h1
def A0.sub{a b:List St}(h:∀ s∈a,s∈b){r:n4}(hr:A0 a r):A0 b r:=by
 obtain⟨s,h1,h2⟩:=hr
 exact⟨s,h s h1,h2⟩
def sH.sub{a b:List Out}(h:∀ s∈a,s∈b){r:n4}(hr:sH a r):sH b r:=by
 obtain⟨s,h1,h2⟩:=hr
 exact⟨s,h s h1,h2⟩
def WM{S:List Nat}{s:St}{g:Option (Nat×Bool)}{b:Bool}(h:guardOf s.env.get g=some b):guardOf (kX S s).env.get g=some b:=by
 cases g with
 | none=>exact h
 | some p=>
  simp only[guardOf,kX]at h ⊢
  have e:Env.get (s.env.map fun p=>(p.1,e7 (ic (lB s.H S)) s.H 40 p.2)) p.1=e7 (ic (lB s.H S)) s.H 40 (s.env.get p.1):=by
   generalize s.env=env
   induction env with
   | nil=>rfl
   | cons q r ih=>
    obtain⟨j,d⟩:=q
    simp only[List.map_cons,Env.sZ]
    split
    ·rfl
    ·exact ih
  rw[e]
  split at h
  ·rename_i x hx
   rw[hx]
   have:e7 (ic (lB s.H S)) s.H 40 (.val (.bool x)) = .val (.bool x):=by unfold e7;rfl
   rw[this]
   exact h
  ·rename_i vs hx
   rw[hx]
   have:e7 (ic (lB s.H S)) s.H 40 (.val (.tuple vs)) = .val (.tuple vs):=by unfold e7;rfl
   rw[this]
   exact h
  ·cases h
def S9(gj:pC T cl){e:ff}{r:List ff}{f:FuncId}{fn:eV}{s:St}{l:List St}{R:n4→Prop}(hg:guardOf s.env.get e.guard=some true)(hf:T.fn f=some fn)(hp:fn.full=false)
  (h:IH cl e f s=some l) (k:∀ s'∈l,Ev T (.ops r s') R):Ev T (.ops (e::r) s) R:=by
 unfold IH at h
 split at h
 ·cases h
 ·rename_i f' args hc
  split at h
  ·rename_i e1
   subst e1
   split at h
   ·rename_i l0 jh
    have hm:=tR h
    refine .Bf hg hc hf hp (gj _ _ _ _ jh) (fun d Hn hd=>?_) fun d Hn s' hd gw=>?_
    ·obtain⟨y,hy,_⟩:=hm _ hd.val
     dsimp only at hy
     split at hy
     ·rename_i q;rw[q];rfl
     ·cases hy
    ·obtain⟨y,hy,kr⟩:=hm _ hd.val
     dsimp only at hy
     rw[gw]at hy
     cases hy
     exact k s' (kr s' (by simp))
   ·cases h
  ·cases h
def afQ(gj:pC T cl){e:ff}{r:List ff}{s:St}{l:List St}{R:n4→Prop}(hg:guardOf s.env.get e.guard=some true)
  (h:ML T cl e s=some l) (k:∀ s'∈l,Ev T (.ops r s') R):Ev T (.ops (e::r) s) R:=by
 unfold ML at h
 split at h
 ·cases h
 ·rename_i f args hc
  split at h
  ·cases h
  ·rename_i fn hf
   split at h
   ·rename_i uh
    split at h
    ·rename_i l0 jh
     cases h
     refine .Be hg hc hf uh (gj _ _ _ _ jh) fun d H' hd=>k _ ?_
     exact aw.2 ⟨(d,H'),hd.val,rfl⟩
    ·cases h
   ·rename_i uh
    split at h
    ·rename_i iJ
     simp only[ah,cK]at iJ
     refine .kX (refsOf s args) ?_ (S9 gj (WM hg) hf uh h k)
     rw[iJ.1.2];rfl
    ·exact S9 gj hg hf uh h k
def afS(tb:Gi T rd){e:ff}{r:List ff}{s:St}{v:Nat}{args:List D}{l:List St}{R:n4→Prop}(hg:guardOf s.env.get e.guard=some true)(hc:yieldOf s.env.get e.op=some (v,args))
  (h:MP T rd e s v args=some l) (k:∀ s'∈l,Ev T (.ops r s') R):Ev T (.ops (e::r) s) R:=by
 unfold MP at h
 split at h
 ·rename_i rf env0 hv
  split at h
  ·rename_i Rd hR
   split at h
   ·rename_i hl
    split at h
    ·rename_i la vM
     split at h
     ·rename_i lb XZ
      have hA:=tR XZ
      have hB:=tR h
      refine .Gr hg hc hv hR hl (tb _ _ _ vM) (Rb:=sH lb) (fun o ho=>?_) (fun s1 kA mT my=>?_) (fun o ho=>?_) fun o kj ho ng=>?_
      ·obtain⟨y,hy,_⟩:=hA o ho.out
       split at hy
       ·rename_i s1
        split at hy
        ·rename_i SS kA my
         split at hy
         ·rename_i e1;subst e1;exact⟨rfl,kA,my⟩
         ·cases hy
        ·cases hy
       ·cases hy
      ·obtain⟨y,hy,kr⟩:=hA _ mT.out
       simp only[my,if_true]at hy
       exact(tb _ _ _ hy).mono fun r hr=>hr.sub kr
      ·obtain⟨y,hy,_⟩:=hB o ho.out
       split at hy
       ·rename_i SU kj ng
        split at hy
        ·rename_i e2;subst e2;exact⟨kj,ng⟩
        ·cases hy
       ·cases hy
      ·obtain⟨y,hy,kr⟩:=hB o ho.out
       simp only[ng,if_true]at hy
       cases hy
       exact k _ (kr _ (by simp))
     ·cases h
    ·cases h
   ·cases h
  ·cases h
 ·cases h
def afR{e:ff}{r:List ff}{s:St}{x:X}{l:List St}{R:n4→Prop}(hg:guardOf s.env.get e.guard=some true)(gW:e.op = .nextM x)
  (h:MO e s x=some l) (k:∀ s'∈l,Ev T (.ops r s') R):Ev T (.ops (e::r) s) R:=by
 unfold MO at h
 split at h
 ·rename_i v hx
  split at h
  ·rename_i m since seen hv
   split at h
   ·rename_i kk es hm
    split at h
    ·rename_i hs
     dsimp only at h
     refine .next hg gW hx hv hm hs (fun h0=>?_) fun i kv d hi xN=>?_
     ·rw[if_pos]at h
      ·cases h
       exact k _ (by simp)
      ·rw[cK,dv]
       intro i hi
       have:=h0 i (by simpa using hi)
       simpa using this
     ·have gi:=(af.1 hi).1
      rw[if_neg]at h
      ·cases h
       refine k _ (b6.2 ⟨i,aP.2 ⟨by simpa using gi,by simpa using xN⟩,?_⟩)
       simp only[hi]
      ·rw[cK,dv]
       intro h0
       have:=h0 i (by simpa using gi)
       simp at this
       exact xN this
    ·cases h
   ·cases h
  ·cases h
 ·cases h
theorem Dc(gj:pC T cl)(tb:Gi T rd):∀ (l:List ff) (s:St) (r:List St),tw T cl rd l s=some r→Ev T (.ops l s) (A0 r)
 | [],s,r,h=>by cases h;exact .nil ⟨s,by simp,rfl⟩
 | e::r,s,res,h=>by
  have go:∀ {l:List St},(pW l fun s'=>tw T cl rd r s')=some res→∀ s'∈l,Ev T (.ops r s') (A0 res):=fun hl s' gw=>by
   obtain⟨y,hy,kr⟩:=tR hl s' gw
   exact(Dc gj tb r s' y hy).mono fun _ hr=>hr.sub kr
  simp only[tw]at h
  split at h
  ·cases h
  ·rename_i hg;exact .off hg (Dc gj tb r _ _ h)
  ·rename_i hg
   split at h
   ·rename_i d δ ha;exact .op hg ha (Dc gj tb r _ _ h)
   ·split at h
    ·rename_i d δ ha;exact .yD hg ha (Dc gj tb r _ _ h)
    ·split at h
     ·rename_i x gW
      split at h
      ·rename_i l hl;exact afR hg gW hl (go h)
      ·cases h
     ·split at h
      ·rename_i v args hc
       split at h
       ·rename_i l hl;exact afS tb hg hc hl (go h)
       ·cases h
      ·split at h
       ·cases h
       ·rename_i hc
        split at h
        ·rename_i l hl;exact afQ gj hg hl (go h)
        ·cases h
theorem yz(gj:pC T cl)(st:Bool):∀ (l:List ff) (s:St) (rs:List Rc) (s':St),uQ T cl st l s=some (rs,s')→Ev T (.trace l s) (fun r=>r = .tr rs s')
 | [],s,rs,s',h=>by cases h;exact .Du rfl
 | e::r,s,rs,s',h=>by
  simp only[uQ]at h
  split at h
  ·cases h
  ·rename_i hg
   split at h
   ·rename_i h1;cases h;exact .Dv hg (yz gj st r _ _ _ h1) fun _ _ h=>by cases h;rfl
   ·cases h
  ·rename_i hg
   split at h
   ·rename_i d δ ha
    split at h
    ·rename_i h1;cases h;exact .Dw hg ha (yz gj st r _ _ _ h1) fun _ _ h=>by cases h;rfl
    ·cases h
   ·split at h
    ·cases h
    ·rename_i f args hc
     split at h
     ·cases h
     ·rename_i fn hf
      split at h
      ·cases h
      ·rename_i uh
       have qz:fn.full=false:=by
        simp only[bP,not_or]at uh
        simpa using uh.1
       split at h
       ·rename_i d jh
        by_cases hr:(if fE args=true then closed d else flat d)=true
        ·rw[if_pos hr]at h
         split at h
         ·rename_i h1;cases h
          refine .Dr hg hc hf qz (gj _ _ _ _ jh) (fun d' Hn hd=>?_) hr (yz gj st r _ _ _ h1) fun _ _ h=>by cases h;rfl
          have:=hd.val
          simp only[List.mem_singleton,c8]at this
          exact this
         ·cases h
        ·rw[if_neg hr]at h
         split at h
         ·rename_i g tS gW
          split at h
          ·rename_i v l iV
           split at h
           ·rename_i iJ
            simp only[ah,ar,decide_eq_true_eq]at iJ
            obtain⟨⟨⟨c1,c2⟩,c3⟩,c4⟩:=iJ
            split at h
            ·rename_i h1;cases h
             have pf:some (g,tS.map (ev s.env.get))=some (f,args):=by rw[← hc,gW];rfl
             cases pf
             refine .Dt (v:=v) hg gW rfl hf qz (fun u hu=>?_) (by rw[iV];simp) c2 c3 (gj _ _ _ _ jh) (fun d' Hn hd=>?_) c4 (yz gj st r _ _ _ h1) fun _ _ h=>by cases h;rfl
             ·rw[iV]at hu
              rcases av.1 hu with h|h
              ·exact h
              ·exact c1 u h
             ·have:=hd.val
              simp only[List.mem_singleton,c8]at this
              exact this
            ·cases h
           ·cases h
          ·cases h
         ·cases h
       ·rename_i d ob jh
        split at h
        ·rename_i g tS gW
         by_cases hr:(if fE args=true then lU d&&mL ob else np d&&oe ob)=true
         ·rw[if_pos hr]at h
          split at h
          ·rename_i h1;cases h
           have pf:some (g,tS.map (ev s.env.get))=some (f,args):=by rw[← hc,gW];rfl
           cases pf
           refine .Ds hg gW rfl hf qz (gj _ _ _ _ jh) (fun d' Hn hd=>?_) hr (yz gj st r _ _ _ h1) fun _ _ h=>by cases h;rfl
           have:=hd.val
           simp only[List.mem_singleton,c8]at this
           exact this
          ·cases h
         ·rw[if_neg hr]at h;cases h
        ·cases h
       ·cases h
def MN(gj:pC T cl)(tb:Gi T rd){lp:Nat→List Nat→IR→St→Option (List Out)}(X5:∀ n live a s l,lp n live a s=some l→Ev T (.loop n live a s) (sH l)) :
  ∀ (c:IR) (s:St) (l:List Out),pA T cl lp rd c s=some l→Ev T (.code c s) (sH l):=by
 intro c
 induction c with
 | skip=>intro s l h;cases h;exact .skip ⟨_,by simp,rfl⟩
 | ops ops=>
  intro s l h
  simp only[pA]at h
  split at h
  ·rename_i l0 h1
   cases h
   refine .Bo ((Dc gj tb _ _ _ h1).mono fun r hr=>?_)
   obtain⟨s',gw,rfl⟩:=hr
   exact⟨_,aw.2 ⟨s',gw,rfl⟩,rfl⟩
  ·cases h
 | lP iW ops es=>intro s l h;simp[pA]at h
 | kK iW ops=>
  intro s l h
  simp only[pA]at h
  split at h
  ·rename_i rs s' h1
   split at h
   ·rename_i hp;cases h;exact .kK (yz gj _ _ _ _ _ h1) fun _ _ h=>by cases h;exact⟨hp,_,by simp,rfl⟩
   ·cases h
  ·split at h
   ·rename_i hm
    split at h
    ·rename_i rs s' h1
     split at h
     ·rename_i hp;cases h
      refine .BE (List.range s.H.length) ?_ (.kK (yz gj _ _ _ _ _ h1) fun _ _ h=>by cases h;exact⟨hp,_,by simp,rfl⟩)
      rw[cK]at hm
      rw[hm];rfl
     ·cases h
    ·cases h
   ·cases h
 | seq a b oH tg=>
  intro s l h
  simp only[pA]at h
  split at h
  ·rename_i l0 h1
   have hm:=tR h
   refine .seq (oH _ _ h1) (fun s' gw=>?_) fun o ho fm=>?_
   ·obtain⟨y,hy,kr⟩:=hm _ gw.out
    exact(tg _ _ hy).mono fun _ hr=>hr.sub kr
   ·obtain⟨y,hy,kr⟩:=hm _ ho.out
    cases o with
    | norm=>cases fm
    | exit id s'=>cases hy;exact⟨_,kr _ (by simp),rfl⟩
    | ret s'=>cases hy;exact⟨_,kr _ (by simp),rfl⟩
  ·cases h
 | cond c a b oH tg=>
  intro s o h
  simp only[pA]at h
  split at h
  ·rename_i hc;exact .cond (x:=true) hc (oH _ _ h)
  ·rename_i hc;exact .cond (x:=false) hc (tg _ _ h)
  ·cases h
 | block id live a oH=>
  intro s l h
  simp only[pA]at h
  split at h
  ·rename_i l0 h1
   cases h
   refine .block (oH _ _ h1) fun o ho=>⟨_,Iv (fun _ _=>VC) (aw.2 ⟨o,ho.out,rfl⟩),rfl⟩
  ·cases h
 | loop live a oH=>intro s o h;exact .loop (X5 _ _ _ _ _ h)
 | lZ rf live x=>
  intro s l h
  simp only[pA]at h
  split at h
  ·cases h
  ·rename_i nS
   split at h
   ·rename_i f first cap hx
    split at h
    ·rename_i fn hf
     split at h
     ·rename_i uh
      split at h
      ·rename_i l0 jh
       have hm:=tR h
       refine .lZ (by simpa using nS) hx hf uh (gj _ _ _ _ jh) fun d H' hd=>?_
       obtain⟨y,hy,kr⟩:=hm _ hd.val
       dsimp only at hy
       split at hy
       ·rename_i SR env st kf
        split at hy
        ·rename_i e;subst e
         split at hy
         ·rename_i o ho
          cases hy
          exact⟨env,st,o,kf,ho,_,kr _ (by simp),rfl⟩
         ·cases hy
        ·cases hy
       ·cases hy
      ·cases h
     ·cases h
    ·cases h
   ·cases h
 | exit id=>intro s o h;cases h;exact .exit ⟨_,by simp,rfl⟩
 | ret=>intro s o h;cases h;exact .ret ⟨_,by simp,rfl⟩
 | bad=>intro s o h;cases h
 | fz _ _=>intro s o h;cases h
 | rR _ _ _=>intro s o h;cases h
end
section
variable{T:gP}
def tN(T:gP)(M:sI):Prop:=∀ p∈M,Ev T (.call p.1 p.2.1 []) (ki p.2.2)
def tN.nil(T:gP):tN T []:=fun p hp=>by cases hp
def tN.cons{T:gP}{f:FuncId}{args:List D}{l:List (D×U)}{M:sI}(h:Ev T (.call f args []) (ki l))(t:tN T M):tN T ((f,args,l)::M):=fun p hp=>by
 rcases av.1 hp with rfl|hp
 ·exact h
 ·exact t p hp
def afn{M:sI}(hM:tN T M){f:FuncId}{args:List D}{l:List (D×U)}(h:C4 M f args=some l):Ev T (.call f args []) (ki l):=by
 induction M with
 | nil=>cases h
 | cons p M ih=>
  obtain⟨g,tS,l'⟩:=p
  have Qc:tN T M:=fun q hq=>hM q (by simp[hq])
  simp only[C4]at h
  split at h
  ·rename_i hg
   split at h
   ·rename_i ha
    cases h
    have:=hM (g,tS,l) (by simp)
    rw[tY ha,cz hg]at this
    exact this
   ·exact ih Qc h
  ·exact ih Qc h
theorem Tc{M:sI}(hM:tN T M):∀ k:Nat,(∀ n live a s l,yy T M k n live a s=some l→Ev T (.loop n live a s) (sH l))∧Gi T (Ak T M k)∧pC T (run T M k)
 | 0=>⟨fun _ _ _ _ _ h=>by simp[yy]at h,fun _ _ _ h=>by simp[Ak]at h,fun _ _ _ _ h=>by simp[run]at h⟩
 | k+1=>by
  obtain⟨i1,i2,i3⟩:=Tc hM k
  refine⟨fun n live a s l h=>?_,fun c s l h=>?_,fun f args H l h=>?_⟩
  ·simp only[yy]at h
   split at h
   ·rename_i l0 h1
    have hm:=tR h
    refine .we (MN i3 i2 i1 _ _ _ h1) (fun s' gw=>?_) fun o ho fm=>?_
    ·obtain⟨y,hy,kr⟩:=hm _ gw.out
     exact(i1 _ _ _ _ _ hy).mono fun _ hr=>hr.sub kr
    ·obtain⟨y,hy,kr⟩:=hm _ ho.out
     cases o with
     | norm=>cases fm
     | exit id s'=>cases hy;exact⟨_,kr _ (by simp),rfl⟩
     | ret s'=>cases hy;exact⟨_,kr _ (by simp),rfl⟩
   ·cases h
  ·simp only[Ak]at h
   exact MN i3 i2 i1 _ _ _ h
  ·simp only[run]at h
   split at h
   ·rename_i l0 hk
    cases h
    cases H with
    | nil=>exact afn hM hk
    | cons=>cases hk
   split at h
   ·cases h
   ·rename_i fn hf
    split at h
    ·rename_i hl
     split at h
     ·rename_i l0 h1
      split at h
      ·rename_i ps h2
       cases h
       have hm:=tR h2
       refine .call fn.own hf hl (MN i3 i2 i1 _ _ _ h1) fun o ho=>?_
       obtain⟨y,hy,kr⟩:=hm _ ho.out
       split at hy
       ·rename_i p hp
        cases hy
        exact⟨p.1,p.2,hp,p,Iv (fun _ _=>VD) (kr _ (by simp)),rfl⟩
       ·cases hy
      ·cases h
     ·cases h
    ·cases h
def oK{M:sI}(hM:tN T M){k:Nat}{f:FuncId}{args:List D}{H:U}{l:List (D×U)}(h:run T M k f args H=some l):Ev T (.call f args H) (ki l):=(Tc hM k).2.2 f args H l h
end
end Go.AL
namespace Go.AL
open Go
@[reducible] def o(k:Nat)(op:ij):ff:={ dst:=some k,op:=op,guard:=none }
@[reducible] def u(op:ij):ff:={ dst:=none,op:=op,guard:=none }
@[reducible] def og(j:Nat)(b:Bool)(k:Nat)(op:ij):ff:={ dst:=some k,op:=op,guard:=some (j,b) }
@[reducible] def ug(j:Nat)(b:Bool)(op:ij):ff:={ dst:=none,op:=op,guard:=some (j,b) }
@[reducible] def M(k j:Nat):ff:=o k (.mv (.t j))
@[reducible] def L(k j:Nat):ff:=o k (.ld1 (.t j))
@[reducible] def N(k n j:Nat):ff:=o k (.ldN n (.t j))
@[reducible] def F(k i j:Nat):ff:=o k (.fieldA i (.t j))
@[reducible] def A(k:Nat)(p:BinOp)(j:Nat)(n:Int):ff:=o k (.arith p (.t j) (.c (.i n)))
@[reducible] def B(k:Nat)(p:BinOp)(i j:Nat):ff:=o k (.arith p (.t i) (.t j))
@[reducible] def I(k n i j:Nat):ff:=o k (.idxA n (.t i) (.t j))
@[reducible] def cq(k:Nat)(n:Int):ff:=o k (.mv (.c (.i n)))
@[reducible] def sq(n i j:Nat):ff:=u (.stN n (.t i) (.t j))
@[reducible] def xq(k t j:Nat):ff:=o k (.box t (.t j))
@[reducible] def zq(k j:Nat):ff:=o k (.len .slice (.t j))
@[reducible] def pq(k a b:Nat):ff:=o k (.pick (.t a) (.c (.b true)) (.t b))
@[reducible] def rq(k a b:Nat):ff:=o k (.pick (.t a) (.t b) (.c (.b false)))
@[reducible] def kq(k f j:Nat):ff:=o k (.call f [.t j])
@[reducible] def G(i:Nat)(b:Bool)(k j:Nat):ff:=og i b k (.mv (.t j))
@[reducible] def P6(i:Nat)(b:Bool)(k j:Nat):ff:=og i b k (.ld1 (.t j))
@[reducible] def P5(i:Nat)(b:Bool)(k n j:Nat):ff:=og i b k (.fieldA n (.t j))
@[reducible] def P3(i:Nat)(b:Bool)(k:Nat)(p:BinOp)(j:Nat)(n:Int):ff:=og i b k (.arith p (.t j) (.c (.i n)))
@[reducible] def P4(i:Nat)(b:Bool)(k:Nat)(p:BinOp)(j n:Nat):ff:=og i b k (.arith p (.t j) (.t n))
@[reducible] def nE(k:Nat):ff:=o k (.mv (.c .eU))
@[reducible] def nF(k:Nat):ff:=o k (.mv (.c (.b false)))
@[reducible] def nT(k:Nat):ff:=o k (.mv (.c (.b true)))
@[reducible] def Q(l:List ff)(b:IR):IR:=.seq (.ops l) b
@[reducible] def cx(n k:Nat):IR:=.cond (.t n) .skip (.exit k)
def Zw(n:Nat):List D:=List.replicate n (.val (.int .u32 0))
def Zb(n:Nat):List D:=List.replicate n (.val (.int .u8 0))
def zw:List D:=([1779033703,3144134277,1013904242,2773480762,1359893119,2600822924,528734635,1541459225]:List Int).map fun n=>.val (.int .u32 n)
def zy:List D:=([1116352408,1899447441,3049323471,3921009573,961987163,1508970993,2453635748,2870763221,3624381080,310598401,607225278,1426881987,1925078388,2162078206,2614888103,3248222580,3835390401,4022224774,264347078,604807628,770255983,1249150122,1555081692,1996064986,2554220882,2821834349,2952996808,3210313671,3336571891,3584528711,113926993,338241895,666307205,773529912,1294757372,1396182291,1695183700,1986661051,2177026350,2456956037,2730485921,2820302411,3259730800,3345764771,3516065817,3600352804,4094571909,275423344,430227734,506948616,659060556,883997877,958139571,1322822218,1537002063,1747873779,1955562222,2024104815,2227730452,2361852424,2428436474,2756734187,3204031479,3329325298]:List Int).map fun n=>.val (.int .u32 n)
@[reducible] def gf(k:Nat)(f:Nat)(a0 a1:Nat):ff:=o k (.call f [.t a0,.t a1])
@[reducible] def TK(j:Nat)(b:Bool)(k:Nat)(f:Nat)(a0 a1:Nat):ff:=og j b k (.call f [.t a0,.t a1])
@[reducible] def lF(k:Nat)(f:Nat)(a0 a1 a2:Nat):ff:=o k (.call f [.t a0,.t a1,.t a2])
@[reducible] def jV(k:Nat)(f:Nat)(a0 a1 a2 a3:Nat):ff:=o k (.call f [.t a0,.t a1,.t a2,.t a3])
@[reducible] def uU(k:Nat)(f:Nat)(a0 a1 a2 a3 a4:Nat):ff:=o k (.call f [.t a0,.t a1,.t a2,.t a3,.t a4])
@[reducible] def TJ(j:Nat)(b:Bool)(k:Nat)(f a:Nat):ff:=og j b k (.call f [.t a])
@[reducible] def gJ(k:Nat)(t n m a c:Nat):ff:=o k (.app t n m (.t a) (.t c))
@[reducible] def jt(k:Nat)(s n a c:Nat):ff:=o k (.idxArr s n (.t a) (.t c))
@[reducible] def gQ(k:Nat)(s n a:Nat)(c:Int):ff:=o k (.idxArr s n (.t a) (.c (.i c)))
@[reducible] def jy(k:Nat)(a:Nat):ff:=o k (.un .not (.t a))
@[reducible] def mB(k:Nat)(a:Nat):ff:=o k (.nilck (.t a))
@[reducible] def o8(k:Nat)(f a:Nat):ff:=o k (.callv (.t f) [.t a])
@[reducible] def AD(k:Nat)(f a c:Nat):ff:=o k (.callv (.t f) [.t a,.t c])
@[reducible] def gp(k:Nat)(a i:Nat):ff:=o k (.ext (.t a) i)
@[reducible] def je(k:Nat)(c:IntKind)(a:Nat):ff:=o k (.conv c (.t a))
@[reducible] def ka(k:Nat)(p:BinOp)(a:Nat)(q:IntKind)(c:Int):ff:=o k (.arith p (.t a) (.c (.val (.int q c))))
@[reducible] def jd(k:Nat)(p:BinOp)(c:Int)(a:Nat):ff:=o k (.arith p (.c (.i c)) (.t a))
@[reducible] def agK(j:Nat)(b:Bool)(k:Nat)(s n a c:Nat):ff:=og j b k (.idxArr s n (.t a) (.t c))
@[reducible] def TL(j:Nat)(b:Bool)(k:Nat)(s n a:Nat)(c:Int):ff:=og j b k (.idxArr s n (.t a) (.c (.i c)))
@[reducible] def TR(j:Nat)(b:Bool)(k:Nat)(a:Nat):ff:=og j b k (.un .not (.t a))
@[reducible] def TQ(j:Nat)(b:Bool)(k:Nat)(a:Nat):ff:=og j b k (.nilck (.t a))
@[reducible] def agO(j:Nat)(b:Bool)(k:Nat)(f a:Nat):ff:=og j b k (.callv (.t f) [.t a])
@[reducible] def agQ(j:Nat)(b:Bool)(k:Nat)(f a c:Nat):ff:=og j b k (.callv (.t f) [.t a,.t c])
@[reducible] def TO(j:Nat)(b:Bool)(k:Nat)(n a c:Nat):ff:=og j b k (.idxA n (.t a) (.t c))
@[reducible] def TS(j:Nat)(b:Bool)(k:Nat)(a:Nat):ff:=og j b k (.len .slice (.t a))
@[reducible] def TP(j:Nat)(b:Bool)(k:Nat)(n a:Nat):ff:=og j b k (.ldN n (.t a))
@[reducible] def gO(a c:Nat):ff:=u (.st1 (.t a) (.t c))
@[reducible] def gN(a b c:Nat):IR:=.ops [M a b,A c .add a 1,M b c]
@[reducible] def iz(a b:Nat):IR:=.ops [A a .add b 1,M b a]
@[reducible] def AB(a b c:Nat):IR:=.ops [M a b,A c .sub a 1,M b c]
@[reducible] def jW(a b c e f g h:Nat):IR:=Q [M a b,M c e,zq f c,B g .lss a f] (cx g h)
@[reducible] def DA(a b c e f g:Nat):IR:=Q [M a b,M c e,B f .lss a c] (cx f g)
@[reducible] def yJ(a b c i e f g h l:Nat):IR:=Q [M a b,F c i e,L f c,zq g f,B h .lss a g] (cx h l)
@[reducible] def fy(n:Nat)(l:List ff):IR:=.cond (.t n) (Q l .ret) .skip
@[reducible] def wci(n:Nat)(l:List ff)(k:Nat):IR:=.cond (.t n) (Q l (.exit k)) .skip
@[reducible] def kh(n:Nat)(l:List ff):IR:=.cond (.t n) (.ops l) .skip
@[reducible] def tE(n k:Nat):IR:=.cond (.t n) (.exit k) .skip
@[reducible] def gC(n:Nat)(a b:IR):IR:=.cond (.t n) a b
@[reducible] def gx(l:List ff)(b:IR):IR:=.seq (.kK [] l) b
@[reducible] def oy(l:List ff):IR:=.kK [] l
@[reducible] def wk(n:Int):X:=.c (.i n)
@[reducible] def uX(n:Int):X:=.c (.val (.int .u8 n))
@[reducible] def fo(k t:Nat)(z:List D):ff:=o k (.alloc t z)
@[reducible] def iM(k t s:Nat)(z:List D)(n:Nat)(ps:List (Nat×X)):ff:=o k (.buildSl t s z n ps)
@[reducible] def fL(k:Nat)(z:List D)(ps:List (Nat×Nat×X)):ff:=o k (.build z ps)
@[reducible] def gT(k t s:Nat)(z:List D)(a:Nat):ff:=iM k t s z 1 [(0,.t a)]
@[reducible] def tD(k t s:Nat)(z:List D)(a c:Nat):ff:=iM k t s z 2 [(0,.t a),(1,.t c)]
@[reducible] def jU(k t s:Nat)(z:List D):ff:=iM k t s z 0 []
@[reducible] def fD(a b c:Nat):Nat×Nat×X:=(a,b,.t c)
@[reducible] def fJ(a c:Nat):Nat×X:=(a,.t c)
@[reducible] def oL(f:Nat):X:=.c (.fn (.func f) [] [])
@[reducible] def wS(a b:IR):IR:=.seq a b
@[reducible] def wK(i:Nat)(l:List Nat)(a:IR):IR:=.block i l a
@[reducible] def wP(l:List Nat)(a:IR):IR:=.loop l a
@[reducible] def wD(p:List (Nat×Nat))(l:List ff):IR:=.kK p l
@[reducible] def wO(l:List ff):IR:=.ops l
@[reducible] def iQ  : D:=.val (.string ⟨#[]⟩)
@[reducible] def fu(i:Nat)(k j:Nat):ff:=G i true k j
@[reducible] def gg(i:Nat)(k j:Nat):ff:=G i false k j
@[reducible] def gY(i:Nat)(k j:Nat):ff:=P6 i true k j
@[reducible] def gM(i:Nat)(k j:Nat):ff:=P6 i false k j
@[reducible] def gU(i:Nat)(k n j:Nat):ff:=P5 i true k n j
@[reducible] def ie(i:Nat)(k n j:Nat):ff:=P5 i false k n j
@[reducible] def iI(i:Nat)(k:Nat)(p:BinOp)(j:Nat)(n:Int):ff:=P3 i true k p j n
@[reducible] def jr(i:Nat)(k:Nat)(p:BinOp)(j:Nat)(n:Int):ff:=P3 i false k p j n
@[reducible] def mg(i:Nat)(k:Nat)(p:BinOp)(j n:Nat):ff:=P4 i true k p j n
@[reducible] def lx(i:Nat)(k:Nat)(p:BinOp)(j n:Nat):ff:=P4 i false k p j n
@[reducible] def oM(i:Nat)(k:Nat)(f:Nat)(a0 a1:Nat):ff:=TK i true k f a0 a1
@[reducible] def sD(i:Nat)(k:Nat)(f:Nat)(a0 a1:Nat):ff:=TK i false k f a0 a1
@[reducible] def Nc(i:Nat)(k:Nat)(f a:Nat):ff:=TJ i true k f a
@[reducible] def Jf(i:Nat)(k:Nat)(f a:Nat):ff:=TJ i false k f a
@[reducible] def agL(i:Nat)(k:Nat)(s n a c:Nat):ff:=agK i false k s n a c
@[reducible] def TN(i:Nat)(k:Nat)(s n a:Nat)(c:Int):ff:=TL i true k s n a c
@[reducible] def TM(i:Nat)(k:Nat)(s n a:Nat)(c:Int):ff:=TL i false k s n a c
@[reducible] def tF(i:Nat)(k:Nat)(a:Nat):ff:=TR i true k a
@[reducible] def uV(i:Nat)(k:Nat)(a:Nat):ff:=TR i false k a
@[reducible] def agN(i:Nat)(k:Nat)(a:Nat):ff:=TQ i true k a
@[reducible] def agM(i:Nat)(k:Nat)(a:Nat):ff:=TQ i false k a
@[reducible] def agP(i:Nat)(k:Nat)(f a:Nat):ff:=agO i true k f a
@[reducible] def Jg(i:Nat)(k:Nat)(f a c:Nat):ff:=agQ i true k f a c
@[reducible] def l4(i:Nat)(k:Nat)(n a c:Nat):ff:=TO i true k n a c
@[reducible] def nZ(i:Nat)(k:Nat)(n a c:Nat):ff:=TO i false k n a c
@[reducible] def uW(i:Nat)(k:Nat)(a:Nat):ff:=TS i true k a
@[reducible] def nA(i:Nat)(k:Nat)(a:Nat):ff:=TS i false k a
@[reducible] def lN(i:Nat)(k:Nat)(n a:Nat):ff:=TP i true k n a
@[reducible] def yI(i:Nat)(k:Nat)(n a:Nat):ff:=TP i false k n a
@[reducible] def wL(n:Nat)(l:List Nat)(h b s:IR):IR:=.loop l (.seq h (.seq (.block n l b) s))
@[simp,reducible] def kH:List D:=[.eU,.eU,.eU,(.i 0),(.i 0),(.i 0),(.i 0),(.b false)]
@[simp,reducible] def jX:List D:=[.eU,.eU,.eU,(.i 0),(.i 0)]
@[simp,reducible] def tH:List D:=[(.i 0),.eU,.eU,.eU,(.i 0),(.b false),.eU,(.i 0),(.i 0)]
@[simp,reducible] def fR:List D:=[(.i 0),(.i 0)]
@[simp,reducible] def uY:List D:=[(.i 0),(.i 0),(.b false)]
@[simp,reducible] def Ng:List D:=[(.i 0),.eU,.eU,.eU,(.i 0),(.b false),.eU,(.i 0),(.i 0),.eU,.eU,.eU,(.i 0),(.i 0),.eU,(.b false)]
@[simp,reducible] def rG:List D:=[.eU,.eU,.eU,(.i 0),(.i 0),(.b false)]
@[simp,reducible] def iR:List D:=[(.i 0)]
@[simp,reducible] def mK:List D:=[.eU]
@[reducible] def iO(n:Nat)(b:IR)(k:Nat):eV:=.mk n b [.tmp k] false 0 true
@[simp] theorem arL{n:Nat}{b:IR}{k:Nat}:(iO n b k).ntmps=n:=rfl
@[simp] theorem arI{n:Nat}{b:IR}{k:Nat}:(iO n b k).body=b:=rfl
@[simp] theorem arN{n:Nat}{b:IR}{k:Nat}:(iO n b k).results = [.tmp k]:=rfl
@[simp] theorem arJ{n:Nat}{b:IR}{k:Nat}:(iO n b k).full=false:=rfl
@[simp] theorem arM{n:Nat}{b:IR}{k:Nat}:(iO n b k).own=0:=rfl
@[simp] theorem arK{n:Nat}{b:IR}{k:Nat}:(iO n b k).fz=true:=rfl
@[reducible] def fZ(n:Nat)(b:IR)(k:Nat):eV:=.mk n b [.tmp k] false 0 false
@[simp] theorem arF{n:Nat}{b:IR}{k:Nat}:(fZ n b k).ntmps=n:=rfl
@[simp] theorem arC{n:Nat}{b:IR}{k:Nat}:(fZ n b k).body=b:=rfl
@[simp] theorem arH{n:Nat}{b:IR}{k:Nat}:(fZ n b k).results = [.tmp k]:=rfl
@[simp] theorem arD{n:Nat}{b:IR}{k:Nat}:(fZ n b k).full=false:=rfl
@[simp] theorem arG{n:Nat}{b:IR}{k:Nat}:(fZ n b k).own=0:=rfl
@[simp] theorem arE{n:Nat}{b:IR}{k:Nat}:(fZ n b k).fz=false:=rfl
@[reducible] def oN(n:Nat)(b:IR)(k i:Nat):eV:=.mk n b [.pZ k i] false 0 true
@[simp] theorem arz{n:Nat}{b:IR}{k i:Nat}:(oN n b k i).ntmps=n:=rfl
@[simp] theorem arw{n:Nat}{b:IR}{k i:Nat}:(oN n b k i).body=b:=rfl
@[simp] theorem arB{n:Nat}{b:IR}{k i:Nat}:(oN n b k i).results = [.pZ k i]:=rfl
@[simp] theorem arx{n:Nat}{b:IR}{k i:Nat}:(oN n b k i).full=false:=rfl
@[simp] theorem arA{n:Nat}{b:IR}{k i:Nat}:(oN n b k i).own=0:=rfl
@[simp] theorem ary{n:Nat}{b:IR}{k i:Nat}:(oN n b k i).fz=true:=rfl
@[reducible] def lG(n:Nat)(b:IR)(k i:Nat):eV:=.mk n b [.pZ k i] false 0 false
@[simp] theorem art{n:Nat}{b:IR}{k i:Nat}:(lG n b k i).ntmps=n:=rfl
@[simp] theorem aro{n:Nat}{b:IR}{k i:Nat}:(lG n b k i).body=b:=rfl
@[simp] theorem arv{n:Nat}{b:IR}{k i:Nat}:(lG n b k i).results = [.pZ k i]:=rfl
@[simp] theorem arp{n:Nat}{b:IR}{k i:Nat}:(lG n b k i).full=false:=rfl
@[simp] theorem aru{n:Nat}{b:IR}{k i:Nat}:(lG n b k i).own=0:=rfl
@[simp] theorem arq{n:Nat}{b:IR}{k i:Nat}:(lG n b k i).fz=false:=rfl
def nth:List (Option eV)→Nat→Option eV
 | [],_=>none
 | a::_,0=>a
 | _::l,n+1=>nth l n
def assoc:List (Nat×nD)→Nat→Option nD
 | [],_=>none
 | (k,R)::l,n=>if k=n then some R else assoc l n
def elem(f:Nat):List Nat→Bool
 | []=>false
 | a::l=>if a=f then true else elem f l
def Ju(fn:Func):Code:=fn.body.getD .skip
def yw(P:Program)(rf:Nat):Array Tmp:=match wB P rf with
 | some (_,ps,_,_)=>ps
 | none=>#[]
def yq(P:Program)(rf:Nat):Code:=match wB P rf with
 | some (_,_,a,_)=>a
 | none=>.skip
def yu(P:Program)(rf:Nat):Code:=match wB P rf with
 | some (_,_,_,b)=>b
 | none=>.skip
section
variable{P:Program}{G:GT}
def WE{f:FuncId}{fn:eV}{func:Func}{code:Code}{hs gw:List (List Nat)}(h1:P.funcs[f]? = some func)(h2:func.body=some code)(h3:p8 P f=true)(h4:(nu code).length≤64)
  (h5:cC P G fn.ntmps (64*f) hs code=some (fn.body,gw)) (h6:func.ntmps=fn.ntmps) (h7:wY P func.results.toList=some fn.results):AZ P G f fn:=⟨⟨func,code,hs,gw,h1,h2,h3,h4,h5,h6,h7⟩⟩
def yv{rf:Nat}{R:nD}{N:Nat}{ps:Array Tmp}{ac bc:Code}(ha hb:List (List Nat))(h1:G.rt rf=some (N,ps,ac,bc))(h2:ps.toList=R.params)(h3:(R.params.all fun p=>decide (p<N))=true)
  (h4:nu ac = []∧nu bc = []) (h5:cC P G N 0 ha ac=some (R.a,[])) (h6:cC P G N 0 hb bc=some (R.b,[])):rH P G rf R:=
 ⟨⟨N,ps,ac,bc,h1,h2,h3,Jy (fun i x hx=>by rw[h4.1]at hx;cases hx) h5,Jy (fun i x hx=>by rw[h4.2]at hx;cases hx) h6⟩⟩
inductive tL(P:Program)(G:GT):Nat→List (Option eV)→Prop
 | nil (k:Nat):tL P G k []
 | has {k:Nat} {fn:eV} {l:List (Option eV)} (h:AZ P G k fn) (t:tL P G (k+1) l):tL P G k (some fn::l)
 | no {k:Nat} {l:List (Option eV)} (t:tL P G (k+1) l):tL P G k (none::l)
inductive wT(P:Program)(G:GT):List (Nat×nD)→Prop
 | nil:wT P G []
 | cons {k:Nat} {R:nD} {l:List (Nat×nD)} (h:rH P G k R) (t:wT P G l):wT P G ((k,R)::l)
def tL.get:∀ {l:List (Option eV)} {k:Nat},tL P G k l→∀ (i:Nat) (fn:eV),nth l i=some fn→AZ P G (k+i) fn:=by
 intro l k h
 induction h with
 | nil=>intro i fn hi;cases hi
 | has h t ih=>
  intro i fn hi
  cases i with
  | zero=>cases hi;exact h
  | succ i=>
   have:=ih i fn hi
   rwa [a7,dD 1 i]at this
 | no t ih=>
  intro i fn hi
  cases i with
  | zero=>cases hi
  | succ i=>
   have:=ih i fn hi
   rwa [a7,dD 1 i]at this
def wT.get{l:List (Nat×nD)}(h:wT P G l):∀ (i:Nat) (R:nD),assoc l i=some R→rH P G i R:=by
 induction h with
 | nil=>intro i R hi;cases hi
 | @cons k R0 l h t ih=>
  intro i R hi
  simp only[assoc]at hi
  split at hi
  ·rename_i e;subst e;cases hi;exact h
  ·exact ih i R hi
def agD{l:List (Option eV)}{r:List (Nat×nD)}{so:FuncId→Option Nat}(lX:G.rt=wB P)(h:tL P G 0 l)(h2:wT P G r){si:FuncId→Bool}(h3:∀ f sz,so f=some sz→tQ P f sz)(h4:∀ f,si f=true→wU P f):Jj P G { fn:=nth l,round:=assoc r,sort:=so,qT:=si } where
 sort:=h3
 qT:=h4
 rt:=lX
 fn f fn hf:=by
  have:=h.get f fn hf
  rwa [aR]at this
 round:=h2.get
