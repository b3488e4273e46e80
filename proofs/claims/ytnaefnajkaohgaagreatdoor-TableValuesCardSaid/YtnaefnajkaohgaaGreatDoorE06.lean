/- Part 6 of the proof of skewer.skewerlaw15.TableValues. -/
import Derived.Test.YtnaefnajkaohgaaGreatDoorE05
import Derived.Test.YtnaefnajkaohgaaGreatDoorE04
import Derived.KernelRfl
set_option linter.all false
namespace Go.AL
open Go
def CC(P:Program)(G:GT)(g:FuncId)(args:List D)(d:D)(Hn:U):Prop:=o5 P g=true∧tA P G g args [] d Hn
def outs(R:mS→Prop):Out→Prop:=fun o=>R (.out o)
def yT(R:mS→Prop):D→U→Prop:=fun d H=>R (.val d H)
def Good(P:Program)(G:GT):uZ→(mS→Prop)→Prop
 | .ops l s,R=>∀ (N:Nat) (A:Array Oper) (ops:List Oper),mU P G N A ops=some l →
   ∀ (ro:Option Nat) (n:Nat) (Q:Exit→Act→World→Prop) (c:Ctx) (w:World) (a:Act),(s.fG=false→ro=none)→ju G N c w s a→sn G N s.H.length s.fG c s.H w (outs R) Q→wpListIn (FW ro) n P A Q ops a w
 | .code ir s,R=>∀ (N:Nat) (code:Code),lL P G N ir code →
   ∀ (ro:Option Nat) (n:Nat) (Q:Exit→Act→World→Prop) (c:Ctx) (w:World) (a:Act),(s.fG=false→ro=none)→ju G N c w s a→sn G N s.H.length s.fG c s.H w (outs R) Q→code.wpIn (FW ro) n P Q a w
 | .loop n0 _ ir s,R=>n0≤s.H.length→∀ (N:Nat) (code:Code),lL P G N ir code →
   ∀ (ro:Option Nat) (n:Nat) (Q:Exit→Act→World→Prop) (c:Ctx) (w:World) (a:Act),(s.fG=false→ro=none)→ju G N c w s a→sn G N n0 s.fG c s.H w (outs R) Q→Em (FW ro) n P code Q a w
 | .call f args H,R=>re P G f args H (yT R)
 | .trace l s,R=>∃ rs s',R (.tr rs s')∧s.H.length≤s'.H.length∧s'.marks=s.marks∧s'.fG=s.fG∧∀ (K k0:Nat),s'.H.length≤K→∃ items:List k7,items.map (·.e)=l∧items.map (·.rc)=rs∧items.map (·.k)=List.range' k0 l.length ∧
   Tx (CC P G) s.env.get (s.H++room (K-s.H.length)) items s'.env.get (s'.H++room (K-s'.H.length))
section
variable{P:Program}{G:GT}{T:gj}
theorem sn.mono{N n m:Nat}{fG:Bool}{c c1:Ctx}{H H1:U}{w w1:World}{R:Out→Prop}{Q:Exit→Act→World→Prop}(h:sn G N n fG c H w R Q)(hs:Step n c H w c1 H1 w1)(hm:n≤m):sn G N m fG c1 H1 w1 R Q:=
 fun o c' w' a' hR hr hl eX fg=>h o c' w' a' hR hr (Nat.le_trans hm hl) eX (hs.trans fg hm)
theorem zT{N:Nat}{A:Array Oper}{o:Oper}{r:List Oper}{l:List fC}(h:mU P G N A (o::r)=some l) :
  ∃ e l',l=e::l'∧rz P G N A o=some e∧mU P G N A r=some l':=by
 simp only[mU]at h
 split at h
 ·rename_i e l' he hl
  cases h
  exact⟨e,l',rfl,he,hl⟩
 ·cases h
theorem SQ{N:Nat}{A:Array Oper}{ops:List Oper}(h:mU P G N A ops=some []):ops = []:=by
 cases ops with
 | nil=>rfl
 | cons o r=>
  obtain⟨e,l',h1,_⟩:=zT h
  cases h1
theorem MR{N:Nat}{A:Array Oper}:∀ {l es:List fC} {ops:List Oper},mU P G N A ops=some (l++es)→∃ o1 o2,ops=o1++o2∧mU P G N A o1=some l∧mU P G N A o2=some es
 | [],es,ops,h=>⟨[],ops,rfl,rfl,h⟩
 | e::l,es,ops,h=>by
  cases ops with
  | nil=>cases h
  | cons o r=>
   obtain⟨e',l',h1,h2,h3⟩:=zT h
   cases h1
   obtain⟨o1,o2,rfl,h4,h5⟩:=MR h3
   exact⟨o::o1,o2,rfl,by simp only[mU,h2,h4],h5⟩
theorem MS{N:Nat}{A:Array Oper}:∀ {ops:List Oper} {l:List fC},mU P G N A ops=some l→ops.length=l.length∧∀ (i:Nat) (o:Oper) (e:fC),ops[i]? = some o→l[i]? = some e→rz P G N A o=some e:=by
 intro ops
 induction ops with
 | nil=>intro l h;cases h;exact⟨rfl,fun i o e h=>by simp at h⟩
 | cons o r JT=>
  intro l h
  obtain⟨e,l',rfl,h1,h2⟩:=zT h
  obtain⟨q1,q2⟩:=JT h2
  refine⟨by simp[q1],fun i o' e' ho he=>?_⟩
  cases i with
  | zero=>simp at ho he;subst ho;subst he;exact h1
  | succ i=>exact q2 i o' e' (by simpa using ho) (by simpa using he)
theorem vq{N:Nat}{A:Array Oper}{ops:List Oper}{e:fC}{l:List fC}(h:mU P G N A ops=some (e::l)) :
  ∃ o r,ops=o::r∧rz P G N A o=some e∧mU P G N A r=some l:=by
 cases ops with
 | nil=>cases h
 | cons o r=>
  obtain⟨e',l',h1,h2,h3⟩:=zT h
  cases h1
  exact⟨o,r,rfl,h2,h3⟩
theorem Ru{N:Nat}{c:Ctx}{w:World}{s:St}{a:Act}{ro:Option Nat}{n:Nat}{o:Oper}{io:gC}{f:FuncId}{args:List D}{next:Act→World→Prop}{Q:Exit→Act→World→Prop}(hs:ju G N c w s a)(hc:ly P G o=some io)
  (hd:pA N o.dst=true) (iz:iW s.env.get io=some (f,args)) (jS:o5 P f=true) {R:D→U→Prop}
  (ix:∀ vs:List Value,ig c w vs args→Calls P f vs.toArray w fun e w'=>∃ v c' d H',e = .returned v∧R d H'∧fj G c' H' w'∧eV c' w' v d∧Step s.H.length c s.H w c' H' w')
  (k:∀ d H' c' w' a',R d H'→ju G N c' w' { s with env:=put s.env o.dst d,H:=H' } a'→Step s.H.length c s.H w c' H' w'→next a' w'):o.wpIn (FW ro) n P a w next Q:=by
 obtain⟨vs,gS,gX⟩:=G4 hs.eX hs.env hc iz jS
 refine⟨fun _ _=>trivial,?_⟩
 rw[Oper.semAt_plain (FW ro) a.eval o (wG hc),gS]
 refine⟨fun h=>by simp[Fence.wide]at h,zH.2 ((ix vs gX).mono ?_)⟩
 rintro e w' ⟨v,c',d,H',rfl,hR,eX,hr,fg⟩
 exact k d H' c' w' _ hR (hs.next eX fg hd hr) fg
theorem RJ{s s1:St}{dst:Option Nat}{args:List D}{r:D}{Hn:U}(h:after s dst args r Hn=some s1) :
  (if fy args then kW r&&Hn.all l9 else mN r&&Hn.all nk)=true∧s1 = { s with env:=put s.env dst (iX s.H.length r),H:=s.H++Hn }:=by
 unfold after at h
 generalize (if fy args=true then kW r&&Hn.all l9 else mN r&&Hn.all nk)=b at h
 cases b
 ·cases h
 ·cases h;exact⟨rfl,rfl⟩
theorem Qk{P:Program}{G:GT}{o:Oper}{io:gC}(hc:ly P G o=some io):Hh io=false:=by
 unfold ly at hc
 split at hc
 all_goals try simp only[ay,af,aH]at hc
 all_goals (repeat' first|(obtain⟨_,_,hc⟩:=hc)|split at hc|simp only[af]at hc)
 all_goals first|rfl|(cases hc;done)|(cases hc;rfl)|(split<;>rfl)
theorem acR{P:Program}{G:GT}{o:Oper}{x:X}(hc:ly P G o=some (.nextM x)):False:=by
 have:=Qk hc
 cases this
theorem acS{P:Program}{G:GT}{o:Oper}{io:gC}(hc:ly P G o=some io){f:fO}{H:U}{n:Nat}{r:D×Dl}(h:kY f H n io=some r):False:=by
 have:=Qk hc
 cases io<;>first|(cases h;done)|(cases this;done)
theorem adi{fn:eW}(s:St)(ms:List Nat):AL.results fn { s with marks:=ms }=AL.results fn s:=by
 have h1:∀ x,yG { s with marks:=ms } x=yG s x:=fun x=>by cases x<;>rfl
 have h2:∀ l,qq { s with marks:=ms } l=qq s l:=by
  intro l
  induction l with
  | nil=>rfl
  | cons x r ih=>simp only[qq,h1,ih]
 simp only[AL.results,h2]
theorem Uh(hM:P.follows .mixedOrders=true)(hT:Hx P G T){j:uZ}{R:mS→Prop}(h:Ev T j R):Good P G j R:=by
 induction h with
 | @mono j R R' h hi ih=>
  cases j with
  | ops l s=>exact fun N A ops hc ro n Q c w a gN hs hk=>ih N A ops hc ro n Q c w a gN hs fun o c' w' a' hR=>hk o c' w' a' (hi _ hR)
  | code ir s=>exact fun N code hc ro n Q c w a gN hs hk=>ih N code hc ro n Q c w a gN hs fun o c' w' a' hR=>hk o c' w' a' (hi _ hR)
  | loop n0 live ir s=>exact fun hn N code hc ro n Q c w a gN hs hk=>ih hn N code hc ro n Q c w a gN hs fun o c' w' a' hR=>hk o c' w' a' (hi _ hR)
  | call f args H=>exact fun c w vs h1 h2=>(ih c w vs h1 h2).mono fun _ _ ⟨v,c',d,H',he,hR,r⟩=>⟨v,c',d,H',he,hi _ hR,r⟩
  | trace l s=>
   obtain⟨rs,s',h1,h2⟩:=ih
   exact⟨rs,s',hi _ h1,h2⟩
 | @sort f g fn sz v gen t H R α fc l cf hs hg hl fQ h0 rF yi tr nt hc hv k qR=>
  obtain⟨func,code,h1,h2,t1,t2,t3,_⟩:=(hT.fn g fn hg).ex
  exact aec (hT.sort f sz hs) t3 fc l hl fQ h0 rF cf yi tr nt (fun x hx y hy c w vs h1 h2=>(qR x hx y hy c w vs h1 h2).mono fun _ _ ⟨v,c',d,H',he,hR,r⟩=>⟨v,c',d,H',he,by obtain⟨_,e⟩:=hR;cases e;rfl,r⟩) hv k
 | @yN f sz x H R hs k=>exact aeb (hT.sort f sz hs) (f:=f) (g:=0) k
 | @po f v gen t H R l hs h0 rF hv k=>exact aee (hT.po f hs) l h0 rF hv k
 | @nil s R h=>
  intro N A ops hc ro n Q c w a gN hs hk
  rw[SQ hc]
  exact hk _ c w a h rfl (Nat.le_refl _) hs (Step.refl _ _ _ _)
 | @op e r s d δ R hg h t ih=>
  have hle:s.H.length≤(δ.app s.H (Al.last s.H)).length:=HB δ s.H
  intro N A ops hc ro n Q c w a gN hs hk
  obtain⟨o,r',rfl,ho,lG⟩:=vq hc
  obtain⟨s1,s2,s3,s4⟩:=tU ho
  have hw:=qv hs.env s4 hg
  simp only[wpListIn,hw,if_true]
  have s1:=ML s1 h
  refine aeE hs s1 s3 (kZ.last s.H) h fun c' w' a' fW fg=>?_
  rw[← s2]at fW
  exact ih N A r' lG ro n Q c' w' a' gN fW (hk.mono fg hle)
 | @wU e r s d δ R hg h t ih=>
  have hle:s.H.length≤(δ.app s.H (Al.last s.H)).length:=HB δ s.H
  intro N A ops hc ro n Q c w a gN hs hk
  obtain⟨o,r',rfl,ho,lG⟩:=vq hc
  obtain⟨s1,s2,s3,s4⟩:=tU ho
  have hw:=qv hs.env s4 hg
  simp only[wpListIn,hw,if_true]
  have s1:=s1.resolve_left fun h2=>acS h2 h
  refine aeG hs s1 s3 (kZ.last s.H) h fun c' w' a' fW fg=>?_
  rw[← s2]at fW
  exact ih N A r' lG ro n Q c' w' a' gN fW (hk.mono fg hle)
 | @off e r s R hg t ih=>
  intro N A ops hc ro n Q c w a gN hs hk
  obtain⟨o,r',rfl,ho,lG⟩:=vq hc
  obtain⟨s1,s2,s3,s4⟩:=tU ho
  have hw:=qv hs.env s4 hg
  simp only[wpListIn,hw,bH,if_false]
  refine⟨fun _ _=>trivial,?_⟩
  have fW:=hs.next hs.eX (Step.refl _ _ _ _) s3 (v:=undef) (d:=.val undef) (.val _)
  rw[← s2]at fW
  rw[← s2]
  exact ih N A r' lG ro n Q c w _ gN (by rw[s2]at fW ⊢;exact fW) hk
 | @jx l s R S hm t ih=>
  have hlen:(jx S s).H.length=s.H.length:=IC
  intro N A ops hc ro n Q c w a gN hs hk
  obtain⟨c',fW,fg,_⟩:=NH hs S
  refine ih N A ops hc ro n Q c' w a gN fW ?_
  rw[hlen]
  exact hk.mono fg (Nat.le_refl _)
 | @Ab code s R S hm t ih=>
  have hlen:(jx S s).H.length=s.H.length:=IC
  intro N code hc ro n Q c w a gN hs hk
  obtain⟨c',fW,fg,_⟩:=NH hs S
  refine ih N code hc ro n Q c' w a gN fW ?_
  rw[hlen]
  exact hk.mono fg (Nat.le_refl _)
 | @IA l s R live t ih=>
  intro N A ops hc ro n Q c w a gN hs hk
  exact ih N A ops hc ro n Q c w a gN ⟨hs.eX,xB hs.env live,hs.size,hs.marks⟩ hk
 | @Aa code s R live t ih=>
  intro N code hc ro n Q c w a gN hs hk
  exact ih N code hc ro n Q c w a gN ⟨hs.eX,xB hs.env live,hs.size,hs.marks⟩ hk
 | @zG e r s f args fn R1 R hg hc hf hp h ha t qR ih=>
  intro N A ops ny ro n Q c w a gN hs hk
  obtain⟨o,r',rfl,ho,lG⟩:=vq ny
  obtain⟨s1,s2,s3,s4⟩:=tU ho
  have hw:=qv hs.env s4 hg
  simp only[wpListIn,hw,if_true]
  obtain⟨func,code,h1,h2,t1,t2,t3,_⟩:=(hT.fn f fn hf).ex
  have il:∀ d Hn,yT R1 d Hn→(if fy args then kW d&&Hn.all l9 else mN d&&Hn.all nk)=true∧after s e.dst args d Hn=some { s with env:=put s.env e.dst (iX s.H.length d),H:=s.H++Hn }:=fun d Hn hR=>by
   obtain⟨s',fW⟩:=dg.1 (ha d Hn hR)
   obtain⟨k1,rfl⟩:=RJ fW
   exact⟨k1,fW⟩
  have s1:=zP s1 hc
  refine Ru hs s1 s3 hc t3 (R:=fun d H'=>∃ d0 Hn,yT R1 d0 Hn∧d=iX s.H.length d0∧H'=s.H++Hn) (fun vs gX=>(ac1 hs.eX gX qR fun d Hn hR=>(il d Hn hR).1).mono ?_) ?_
  ·rintro e w' ⟨v,c',d,Hn,he,hR,k1,k2,k3⟩
   exact⟨v,c',_,_,he,⟨d,Hn,hR,rfl,rfl⟩,k1,k2,k3⟩
  ·rintro d H' c' w' a' ⟨d0,Hn,hR,rfl,rfl⟩ fW fg
   rw[← s2]at fW
   exact ih d0 Hn _ hR (il d0 Hn hR).2 N A r' lG ro n Q c' w' a' gN fW (hk.mono fg (by simp))
 | @zF e r s f args fn R1 R hg hc hf hp h t qR ih=>
  intro N A ops ny ro n Q c w a gN hs hk
  obtain⟨o,r',rfl,ho,lG⟩:=vq ny
  obtain⟨s1,s2,s3,s4⟩:=tU ho
  have hw:=qv hs.env s4 hg
  simp only[wpListIn,hw,if_true]
  obtain⟨func,code,h1,h2,t1,t2,t3,_⟩:=(hT.fn f fn hf).ex
  have s1:=zP s1 hc
  refine Ru hs s1 s3 hc t3 (R:=fun d H'=>yT R1 d H'∧s.H.length≤H'.length) (fun vs gX=>(qR c w vs hs.eX gX).mono ?_) ?_
  ·rintro e w' ⟨v,c',d,H',he,hR,hle,k1,k2,k3⟩
   exact⟨v,c',d,H',he,⟨hR,hle⟩,k1,k2,k3⟩
  ·rintro d H' c' w' a' ⟨hR,hle⟩ fW fg
   rw[← s2]at fW
   exact ih d H' hR N A r' lG ro n Q c' w' a' gN fW (hk.mono fg hle)
 | @EA e r s v args rf env0 Rd Ra Rb R hg hc hv hR hl ha hn hb hm t nB rU qS=>
  intro N A ops ny ro n Q c w a gN hs hk
  obtain⟨o,r',rfl,ho,lG⟩:=vq ny
  obtain⟨s1,s2,s3,s4⟩:=tU ho
  have hw:=qv hs.env s4 hg
  simp only[wpListIn,hw,if_true]
  obtain⟨M,ps,ac,bc,qI,FQ,ft,I0,UU⟩:=(hT.round rf Rd hR).ex
  rw[← FQ]at hl nB ft
  have s1:=s1.resolve_right fun h2=>by
   have:=H8 h2
   unfold yieldOf at hc
   split at hc
   ·rename_i heq;rw[heq]at this;cases this
   ·cases hc
  refine aeH hs s1 s3 hc hv qI (by simpa using hl) (fun p hp=>by simpa using ar.1 ft p hp) (Ra:=outs Ra) (Rb:=outs Rb) ?_ hn ?_ hm ?_
  ·exact fun ro n Q c w a fW ie=>nB M ac I0 ro n Q c w a (fun h=>by cases h) fW ie
  ·intro s1 jw uh mK ke ro n Q c w a fW ie
   have:=rU s1 jw uh ke M bc UU ro n Q c w a (fun h=>by simp[mK]at h) fW
   simp only[bP,mK]at this
   exact this ie
  ·intro q jo c' w' a' ui nA hle fW fg
   rw[← s2]at fW
   exact qS q jo ui nA N A r' lG ro n Q c' w' a' gN fW (hk.mono fg (by simpa using hle))
 | @next e r s x v m since seen kk es R hg gv hx hv hm qk h0 h1 WW oN=>
  intro N A ops ny ro n Q c w a gN hs hk
  obtain⟨o,r',rfl,ho,lG⟩:=vq ny
  obtain⟨s1,s2,s3,s4⟩:=tU ho
  have hw:=qv hs.env s4 hg
  simp only[wpListIn,hw,if_true]
  rw[gv]at s1
  have s1:=s1.resolve_left fun h2=>acR h2
  refine aeD hs s1 s3 hx hv hm qk ?_ ?_
  ·intro gu c' w' a' fW fg
   rw[← s2]at fW
   exact WW gu N A r' lG ro n Q c' w' a' gN fW (hk.mono fg (Nat.le_refl _))
  ·intro i k d hi FM c' w' a' fW fg
   rw[← s2]at fW
   exact oN i k d hi FM N A r' lG ro n Q c' w' a' gN fW (hk.mono fg (by simp))
 | @skip s R h=>
  intro N code hc ro n Q c w a gN eX hk
  cases hc
  exact wpIn_skip (hk _ c w a h rfl (Nat.le_refl _) eX (Step.refl _ _ _ _))
 | @zS l s R h ih=>
  intro N code hc ro n Q c w a gN eX hk
  cases hc with
  | ops h=>exact wpIn_region_list (ih N _ _ h ro n Q c w a gN eX hk)
 | @seq a b s R1 R h k hs oN pJ=>
  intro N code hc ro n Q c w a gN eX hk
  cases hc with
  | seq h1 h2=>
   refine wpIn_seq (oN N _ h1 ro n _ c w a gN eX fun o c' w' a' hR mK hle oL fg=>?_)
   cases o with
   | norm s'=>
    have FV:s'.fG=s.fG:=mK
    refine pJ s' hR N _ h2 ro n Q c' w' a' (fun h=>gN (by rw[← FV];exact h)) oL ?_
    rw[FV]
    exact hk.mono fg hle
   | exit id s'=>exact hk _ c' w' a' (hs _ hR rfl) mK hle oL fg
   | ret s'=>exact hk _ c' w' a' (hs _ hR rfl) mK hle oL fg
 | @cond c a b s x R hc h ih=>
  intro N code ny ro n Q c w a gN eX hk
  cases ny with
  | @cond cx ca cb _ _ _ hx h1 h2=>
   have hr:=gJ eX.eX eX.env hx
   rw[hc]at hr
   have he:a.eval cx = .bool x:=by
    generalize a.eval cx=u at hr
    cases hr;rfl
   refine wpIn_cond he ?_
   cases x
   ·exact ih N _ h2 ro n Q c w a gN eX hk
   ·exact ih N _ h1 ro n Q c w a gN eX hk
 | @block id live a s R1 R h k ih=>
  have hlen:∀ s':St,s.H.length≤s'.H.length→s.H.length≤(cut s.H.length live s').H.length:=by
   intro s' h1
   unfold cut
   split
   ·exact h1
   ·dsimp only;rw[G'];simp[gq]
  have OF:∀ s':St,(cut s.H.length live s').fG=s'.fG:=by
   intro s'
   unfold cut
   split<;>rfl
  intro N code hc ro n Q c w a gN eX hk
  cases hc with
  | block h1=>
   refine wpIn_block (ih N _ h1 ro n _ c w a gN eX fun o c' w' a' hR mK hle oL fg=>?_)
   have nz:=k o hR
   cases o with
   | norm s'=>
    obtain⟨c2,lk,pd,_⟩:=Ie oL hle live
    exact hk (.norm (cut s.H.length live s')) c2 w' a' nz ((OF s').trans mK) (hlen s' hle) lk (fg.trans pd (Nat.le_refl _))
   | exit uE s'=>
    by_cases sT:uE=id
    ·subst sT
     obtain⟨c2,lk,pd,_⟩:=Ie oL hle live
     simp only[k8,if_true]at nz
     have:=hk (.norm (cut s.H.length live s')) c2 w' a' nz ((OF s').trans mK) (hlen s' hle) lk (fg.trans pd (Nat.le_refl _))
     simp only[Out.ex,Exit.inBlock,if_true]at this ⊢
     exact this
    ·simp only[k8,if_neg sT]at nz
     have:=hk _ c' w' a' nz mK hle oL fg
     simp only[Out.ex,Exit.inBlock,if_neg sT]at this ⊢
     exact this
   | ret s'=>exact hk _ c' w' a' nz mK hle oL fg
 | @BZ s R hR=>
  exact⟨[],s,hR,Nat.le_refl _,rfl,rfl,fun K k0 hK=>⟨[],rfl,rfl,rfl,.nil⟩⟩
 | @B1 e r s d δ R1 R hg h t k ih=>
  obtain⟨rs,s',o7,i1,i2,i4,i3⟩:=ih
  refine⟨_,s',k _ _ o7,Nat.le_trans (HB δ s.H) i1,i2,i4,fun K k0 hK=>?_⟩
  obtain⟨items,e1,e2,e3,sN⟩:=i3 K (k0+1) hK
  obtain⟨a1,a2⟩:=HC (RP h) K (Nat.le_trans i1 hK)
  refine⟨⟨k0,e,s.H.length,⟨fJ s.env.get s.H e.op,iy s.H.length δ⟩⟩::items,by simp[e1],by simp[e2],by simp[e3,bV],?_⟩
  have hE:Ef (CC P G) s.env.get (s.H++room (K-s.H.length)) e s.H.length ⟨fJ s.env.get s.H e.op,iy s.H.length δ⟩ d δ:=by
   have:=Ef.op (C:=CC P G) (f:=s.env.get) (H:=s.H++room (K-s.H.length)) (e:=e) (n:=s.H.length) hg (by rw[RO];exact h) a2
   rwa [Ff]at this
  refine .cons hE ?_
  rw[a1]
  have hp:(put s.env e.dst d).get=kD s.env.get e.dst d:=Bv _ _ _
  rw[← hp]
  exact sN
 | @B0 e r s R1 R hg t k ih=>
  obtain⟨rs,s',o7,i1,i2,i4,i3⟩:=ih
  refine⟨_,s',k _ _ o7,i1,i2,i4,fun K k0 hK=>?_⟩
  obtain⟨items,e1,e2,e3,sN⟩:=i3 K (k0+1) hK
  refine⟨⟨k0,e,0,⟨[],[]⟩⟩::items,by simp[e1],by simp[e2],by simp[e3,bV],.cons (.off hg) ?_⟩
  have hp:(put s.env e.dst (.val undef)).get=kD s.env.get e.dst (.val undef):=Bv _ _ _
  rw[← hp]
  exact sN
 | @BW e r s f args fn d R0 R1 R hg hc hf hp h h0 hr t k qR ih=>
  obtain⟨rs,s',o7,i1,i2,i4,i3⟩:=ih
  refine⟨_,s',k _ _ o7,i1,i2,i4,fun K k0 hK=>?_⟩
  obtain⟨items,e1,e2,e3,sN⟩:=i3 K (k0+1) hK
  refine⟨⟨k0,e,0,⟨fJ s.env.get s.H e.op,[]⟩⟩::items,by simp[e1],by simp[e2],by simp[e3,bV],?_⟩
  obtain⟨func,code,h1,h2,t1,t2,t3,_⟩:=(hT.fn f fn hf).ex
  have hE:Ef (CC P G) s.env.get (s.H++room (K-s.H.length)) e 0 ⟨fJ s.env.get s.H e.op,[]⟩ d .no:=by
   have e0:args.map (eZ (fun _=>none) (s.H++room (K-s.H.length)) 40)=args.map (eZ (fun _=>none) s.H 40):=aj fun d _=>(BD 40 d).2
   have:=Ef.call (C:=CC P G) (f:=s.env.get) (H:=s.H++room (K-s.H.length)) (e:=e) (n:=0) hg hc (by rw[e0];exact⟨t3,qR.one h0⟩) hr
   rwa [Ff]at this
  refine .cons hE ?_
  have hp:(put s.env e.dst d).get=kD s.env.get e.dst d:=Bv _ _ _
  rw[← hp]
  exact sN
 | @BX e r s f sA args fn d ob R0 R1 R hg gv ha hf hp h h0 hr t k qR ih=>
  obtain⟨rs,s',o7,i1,i2,i4,i3⟩:=ih
  have hle:s.H.length≤(s.H ++ [ob]).length:=by simp
  refine⟨_,s',k _ _ o7,Nat.le_trans hle i1,i2,i4,fun K k0 hK=>?_⟩
  obtain⟨items,e1,e2,e3,sN⟩:=i3 K (k0+1) hK
  have JB:Safe s.H (.new ob):=trivial
  obtain⟨a1,a2⟩:=HC (δ:=.new ob) JB K (by have:(s.H ++ [ob]).length≤K:=Nat.le_trans i1 hK;simpa[Dl.app,Al.last]using this)
  refine⟨⟨k0,e,s.H.length,⟨fJ s.env.get s.H e.op,[(s.H.length,none)]⟩⟩::items,by simp[e1],by simp[e2],by simp[e3,bV],?_⟩
  obtain⟨func,code,h1,h2,t1,t2,t3,_⟩:=(hT.fn f fn hf).ex
  have hE:Ef (CC P G) s.env.get (s.H++room (K-s.H.length)) e s.H.length ⟨fJ s.env.get s.H e.op,[(s.H.length,none)]⟩ (iX s.H.length d) (.new ob):=by
   have e0:args.map (eZ (fun _=>none) (s.H++room (K-s.H.length)) 40)=args.map (eZ (fun _=>none) s.H 40):=aj fun d _=>(BD 40 d).2
   have:=Ef.callN (C:=CC P G) (f:=s.env.get) (H:=s.H++room (K-s.H.length)) (e:=e) (n:=s.H.length) hg gv ha (by rw[e0];exact⟨t3,qR.one h0⟩) hr a2
   rwa [Ff]at this
  refine .cons hE ?_
  have Hy:jD s.H.length (.new ob) (s.H++room (K-s.H.length))=(s.H ++ [ob])++room (K-(s.H ++ [ob]).length):=a1
  show Tx (CC P G) (kD s.env.get e.dst (iX s.H.length d)) (jD s.H.length (.new ob) (s.H++room (K-s.H.length))) items _ _
  rw[Hy]
  have hp:(put s.env e.dst (iX s.H.length d)).get=kD s.env.get e.dst (iX s.H.length d):=Bv _ _ _
  rw[← hp]
  exact sN
 | @BY e r s f sA args fn d v R0 R1 R hg gv ha hf hp hS hv gf fQ h h0 hr t k qR ih=>
  obtain⟨rs,s',o7,i1,i2,i4,i3⟩:=ih
  have hle:s.H.length≤(s.H.set v .dead).length:=by simp
  refine⟨_,s',k _ _ o7,Nat.le_trans hle i1,i2,i4,fun K k0 hK=>?_⟩
  obtain⟨items,e1,e2,e3,sN⟩:=i3 K (k0+1) hK
  have gT:v<s.H.length:=by
   unfold rowsOf at gf
   split at gf
   ·rename_i q;exact(ae.1 q).1
   ·cases gf
  have JB:Safe s.H (.obj v .dead):=gT
  obtain⟨a1,a2⟩:=HC (δ:=.obj v .dead) JB K (by have:(s.H.set v .dead).length≤K:=Nat.le_trans i1 hK;simpa[Dl.app]using this)
  refine⟨⟨k0,e,0,⟨fJ s.env.get s.H e.op,[(v,none)]⟩⟩::items,by simp[e1],by simp[e2],by simp[e3,bV],?_⟩
  obtain⟨func,code,h1,h2,t1,t2,t3,_⟩:=(hT.fn f fn hf).ex
  have hE:Ef (CC P G) s.env.get (s.H++room (K-s.H.length)) e 0 ⟨fJ s.env.get s.H e.op,[(v,none)]⟩ d (.obj v .dead):=by
   have e0:args.map (eZ (fun _=>none) (s.H++room (K-s.H.length)) 40)=args.map (eZ (fun _=>none) s.H 40):=aj fun d _=>(BD 40 d).2
   have e4:args.map (gh (s.H++room (K-s.H.length)) 40)=args.map (gh s.H 40):=aj fun d _=>(BD 40 d).1
   have:=Ef.vm (C:=CC P G) (f:=s.env.get) (H:=s.H++room (K-s.H.length)) (e:=e) (n:=0) (v:=v) hg gv ha (by rw[e4];exact hS) (by rw[e4];exact hv) (by rw[KI];exact gf) (by rw[e0];exact⟨t3,qR.one h0⟩) (by rw[e0];exact fQ) hr
   rwa [Ff]at this
  refine .cons hE ?_
  have Hy:jD 0 (.obj v .dead) (s.H++room (K-s.H.length))=(s.H.set v .dead)++room (K-(s.H.set v .dead).length):=a1
  show Tx (CC P G) (kD s.env.get e.dst d) (jD 0 (.obj v .dead) (s.H++room (K-s.H.length))) items _ _
  rw[Hy]
  have hp:(put s.env e.dst d).get=kD s.env.get e.dst d:=Bv _ _ _
  rw[← hp]
  exact sN
 | @draw im l s R1 R t hp ih=>
  obtain⟨rs,s',o7,i1,i2,i4,i3⟩:=ih
  obtain⟨hp,UE⟩:=hp rs s' o7
  intro N code hc ro n Q c w a gN eX hk
  cases hc with
  | @draw _ _ id A ord sP he ho lF=>
   obtain⟨items,e1,e2,e3,vJ⟩:=i3 s'.H.length 0 (Nat.le_refl _)
   have hlen:items.length=l.length:=by rw[← e1];simp
   have fQ:∀ (ops:List Oper) (l:List fC),mU P G N A ops=some l→ops.length=l.length∧∀ (i:Nat) (o:Oper) (e:fC),ops[i]? = some o→l[i]? = some e→rz P G N A o=some e:=by
    intro ops
    induction ops with
    | nil=>intro l h;cases h;exact⟨rfl,fun i o e h=>by simp at h⟩
    | cons o r JT=>
     intro l h
     obtain⟨e,l',rfl,h1,h2⟩:=zT h
     obtain⟨q1,q2⟩:=JT l' h2
     refine⟨by simp[q1],fun i o' e' ho he=>?_⟩
     cases i with
     | zero=>simp at ho he;subst ho;subst he;exact h1
     | succ i=>exact q2 i o' e' (by simpa using ho) (by simpa using he)
   obtain⟨q1,q2⟩:=fQ _ _ sP
   have hA:A.size=l.length:=by rw[← q1];simp
   have gM:∀ (i:Nat) (it:k7),items[i]? = some it→it.k=i∧l[i]? = some it.e∧rs[i]? = some it.rc:=by
    intro i it hi
    have ft:=(ae.1 hi).1
    refine⟨?_,by rw[← e1];simp[hi],by rw[← e2];simp[hi]⟩
    have:(items.map (·.k))[i]? = some it.k:=by simp[hi]
    rw[e3,List.getElem?_range' (by omega)]at this
    simpa using this.symm
   refine wpIn_region_any hM ?_
   have qg:fj G c s.H { w with drawn:=w.drawn+1 }:=eX.eX.nq (iM.drew w)
   have AS:Step s.H.length c s.H w c s.H { w with drawn:=w.drawn+1 }:=yQ _ (iM.drew w)
   have JD:SX G N c { w with drawn:=w.drawn+1 } s.env.get (s.H++room (s'.H.length-s.H.length)) s.marks a:=
    ⟨QL qg _,jt.carry (fun _ _ h=>h.nX eX.eX.toHeapOK AS) eX.env,eX.size,eX.marks⟩
   refine Me (C:=CC P G) (fun g args d Hn h=>h) he ho A.size items _ c _ _ _ a (by omega) ?_ JD vJ ?_ ?_ fun c' w' a' fW fg=>?_
   ·refine⟨by simp,fun j hj=>?_,?_,fun it iH=>?_,fun i hi hl=>?_⟩
    ·refine⟨fun _=>⟨items[j]'(by omega),bJ _,(gM j _ (List.getElem?_eq_getElem _)).1⟩,fun _=>by simp[hj]⟩
    ·rw[bz]
     intro i j hi hj vV
     rw[(gM i _ (List.getElem?_eq_getElem hi)).1,(gM j _ (List.getElem?_eq_getElem hj)).1]
     exact vV
    ·obtain⟨i,hi⟩:=aD.1 iH
     have ft:=(ae.1 hi).1
     rw[(gM i it hi).1];omega
    ·simp[hi]at hl
   ·intro it iH
    obtain⟨i,hi⟩:=aD.1 iH
    have ft:=(ae.1 hi).1
    obtain⟨k1,k2,k3⟩:=gM i it hi
    refine⟨A[i]'(by omega),by rw[k1];simp,q2 i _ _ (by simp) k2⟩
   ·intro p qL q hq qM
    obtain⟨i,hi⟩:=aD.1 qL
    obtain⟨j,hj⟩:=aD.1 hq
    obtain⟨p1,p2,p3⟩:=gM i p hi
    obtain⟨KA,KB,q3⟩:=gM j q hj
    rw[p1,KA]at qM ⊢
    have ft:=(ae.1 hj).1
    have:=ar.1 (ar.1 lF j (aX.2 (by omega))) i (aX.2 qM)
    simp only[p2,KB,cu,ah,c7]at this
    rcases this with h|⟨h1,h2⟩
    ·exact .inl h
    ·refine .inr ⟨h1,?_⟩
     rcases h2 with h2|h2
     ·have:=ar.1 hp (i,j) h2
      simp only[p3,q3]at this
      exact this
     ·obtain⟨_,_,_,_,E1⟩:=vJ.each p qL
      obtain⟨_,_,_,_,E2⟩:=vJ.each q hq
      exact Rf E1 E2 h2
   ·simp only[Nat.sub_self,room,List.replicate_zero,aw]at fW fg
    refine hk _ c' w' a' UE i4 i1 ⟨fW.eX,fW.env,fW.size,by show ko c' s'.marks _;rw[i2];exact fW.marks⟩ ?_
    have h1:=AS.trans (QM (c:=c) (w:={ w with drawn:=w.drawn+1 }) (H:=s.H) (s'.H.length-s.H.length) s.H.length) (Nat.le_refl _)
    exact h1.trans fg (by simp)
 | @kF im l es s R1 R t hp k ih tb=>
  obtain⟨rs,s',o7,i1,i2,i4,i3⟩:=ih
  have hp:=hp rs s' o7
  have tb:=tb rs s' o7
  intro N code hc ro n Q c w a gN eX hk
  cases hc with
  | @kF _ _ _ id A ord sP he ho lF ur=>
   obtain⟨items,e1,e2,e3,vJ⟩:=i3 s'.H.length 0 (Nat.le_refl _)
   have hlen:items.length=l.length:=by rw[← e1];simp
   obtain⟨o1,o2,IL,c1,c2⟩:=MR sP
   obtain⟨q1,q2⟩:=MS c1
   obtain⟨q3,_⟩:=MS c2
   have hA:A.size=l.length+es.length:=by rw[← cU,IL,ax,q1,q3]
   have Uw:∀ i,i<l.length→A[i]? = o1[i]? := fun i hi=>by
    rw[← bE,IL,ag (by omega)]
   have Ux:∀ i,A[l.length+i]? = o2[i]? := fun i=>by
    rw[← bE,IL,ak (by omega)]
    congr 1;omega
   have gM:∀ (i:Nat) (it:k7),items[i]? = some it→it.k=i∧l[i]? = some it.e∧rs[i]? = some it.rc∧i<l.length:=by
    intro i it hi
    have ft:=(ae.1 hi).1
    refine⟨?_,by rw[← e1];simp[hi],by rw[← e2];simp[hi],by omega⟩
    have:(items.map (·.k))[i]? = some it.k:=by simp[hi]
    rw[e3,List.getElem?_range' (by omega)]at this
    simpa using this.symm
   refine wpIn_region_any hM ?_
   have qg:fj G c s.H { w with drawn:=w.drawn+1 }:=eX.eX.nq (iM.drew w)
   have AS:Step s.H.length c s.H w c s.H { w with drawn:=w.drawn+1 }:=yQ _ (iM.drew w)
   have JD:SX G N c { w with drawn:=w.drawn+1 } s.env.get (s.H++room (s'.H.length-s.H.length)) s.marks a:=
    ⟨QL qg _,jt.carry (fun _ _ h=>h.nX eX.eX.toHeapOK AS) eX.env,eX.size,eX.marks⟩
   have rO:∀ q∈(es.zipIdx l.length).map (fun p=>(⟨p.2,p.1,0,⟨[],[]⟩⟩:k7)),l.length≤q.k∧q.k<l.length+es.length:=fun q hq=>by
    obtain⟨p,qL,rfl⟩:=ao.1 hq
    obtain⟨x,y⟩:=p
    have:=List.mem_zipIdx qL
    exact⟨this.1,by show y<_;omega⟩
   have rN:((es.zipIdx l.length).map (fun p=>(⟨p.2,p.1,0,⟨[],[]⟩⟩:k7))).length=es.length:=by simp
   rw[show A.size=items.length+((es.zipIdx l.length).map (fun p=>(⟨p.2,p.1,0,⟨[],[]⟩⟩:k7))).length by rw[rN];omega]
   refine Mf (C:=CC P G) (fun g args d Hn h=>h) he ho (lasts:=(es.zipIdx l.length).map fun p=>⟨p.2,p.1,0,⟨[],[]⟩⟩) (ops:=o2) (fun q hq k hk=>ur q.k (rO q hq).1 (by simp;exact(rO q hq).2) k hk) ?_ items.length items _ c _ _ _ a rfl ?_ JD vJ ?_ ?_ fun c' w' a' fW fg=>?_
   ·refine bM fun i=>?_
    simp only[bA,au,List.getElem?_zipIdx]
    cases h:es[i]? with
    | none=>
     have:es.length≤i:=by simpa using h
     simp[aI (l:=o2) (i:=i) (by omega)]
    | some e=>
     have:=(ae.1 h).1
     simp[Ux,List.getElem?_eq_getElem (l:=o2) (i:=i) (by omega)]
   ·refine⟨by simp;omega,fun j hj=>?_,?_,fun it iH=>?_,fun i hi hl=>?_⟩
    ·refine⟨fun _=>?_,fun _=>by rw[rN];simp[show j<items.length+es.length by omega]⟩
     by_cases mF:j<l.length
     ·exact⟨items[j]'(by omega),aR _ (bJ _),(gM j _ (List.getElem?_eq_getElem _)).1⟩
     ·refine⟨⟨j,es[j-l.length]'(by omega),0,⟨[],[]⟩⟩,bw _ (ao.2 ⟨(es[j-l.length]'(by omega),j),?_,rfl⟩),rfl⟩
      rw[List.mem_zipIdx_iff_le_and_getElem?_sub]
      exact⟨by omega,by simp⟩
    ·refine bg.2 ⟨?_,?_,fun p qL q hq=>?_⟩
     ·rw[bz]
      intro i j hi hj vV
      rw[(gM i _ (List.getElem?_eq_getElem hi)).1,(gM j _ (List.getElem?_eq_getElem hj)).1]
      exact vV
     ·rw[bz]
      intro i j hi hj vV
      simp
      omega
     ·obtain⟨i,hi⟩:=aD.1 qL
      have h1:=gM i p hi
      have h2:=rO q hq
      omega
    ·rcases List.mem_append.1 iH with iH|iH
     ·obtain⟨i,hi⟩:=aD.1 iH
      have:=gM i it hi
      omega
     ·have:=rO it iH;omega
    ·rw[rN]at hl
     have:i<items.length+es.length:=by omega
     simp[this]at hl
   ·intro it iH
    obtain⟨i,hi⟩:=aD.1 iH
    obtain⟨k1,k2,k3,k4⟩:=gM i it hi
    have h1:o1[i]? = some (o1[i]'(by omega)):=List.getElem?_eq_getElem _
    exact⟨o1[i]'(by omega),by rw[k1,Uw i k4,h1],q2 i _ _ h1 k2⟩
   ·intro p qL q hq qM
    obtain⟨i,hi⟩:=aD.1 qL
    obtain⟨j,hj⟩:=aD.1 hq
    obtain⟨p1,p2,p3,p4⟩:=gM i p hi
    obtain⟨KA,KB,q3,q4⟩:=gM j q hj
    rw[p1,KA]at qM ⊢
    have:=ar.1 (ar.1 lF j (aX.2 (by simp;omega))) i (aX.2 qM)
    simp only[ag p4,ag q4,p2,KB,cu,ah,c7]at this
    rcases this with h|⟨h1,h2⟩
    ·exact .inl h
    ·refine .inr ⟨h1,?_⟩
     rcases h2 with h2|h2
     ·have:=ar.1 hp (i,j) h2
      simp only[p3,q3]at this
      exact this
     ·obtain⟨_,_,_,_,E1⟩:=vJ.each p qL
      obtain⟨_,_,_,_,E2⟩:=vJ.each q hq
      exact Rf E1 E2 h2
   ·simp only[Nat.sub_self,room,List.replicate_zero,aw]at fW fg
    have h1:=AS.trans (QM (c:=c) (w:={ w with drawn:=w.drawn+1 }) (H:=s.H) (s'.H.length-s.H.length) s.H.length) (Nat.le_refl _)
    have h2:=h1.trans fg (by simp)
    exact tb N A o2 c2 ro n Q c' w' a' (by rw[i4];exact gN) ⟨fW.eX,fW.env,fW.size,by show ko c' s'.marks _;rw[i2];exact fW.marks⟩ (by rw[i4];exact hk.mono h2 i1)
 | @loop live a s R h ih=>
  intro N code hc ro n Q c w a gN eX hk
  cases hc with
  | loop h1=>exact aeC (ih (Nat.le_refl _) N _ h1 ro n Q c w a gN ⟨eX.eX,xB eX.env live,eX.size,eX.marks⟩ hk)
 | @uH n0 live a s R1 R h k hs oN pJ=>
  intro hn N code hc ro n Q c w a gN eX hk
  refine X6 (oN N _ hc ro n _ c w a gN eX fun o c' w' a' hR mK hle oL fg=>?_)
  cases o with
  | norm s'=>
   have Om:n0≤s'.H.length:=Nat.le_trans hn hle
   have Ap:n0≤(cut n0 live s').H.length:=by
    unfold cut
    split
    ·exact Om
    ·dsimp only;rw[G'];simp[gq]
   have AO:(cut n0 live s').fG=s.fG:=by
    have FV:s'.fG=s.fG:=mK
    unfold cut
    split<;>exact FV
   obtain⟨c2,lk,pd,_⟩:=Ie oL Om live
   refine pJ s' hR Ap N _ hc ro n Q c2 w' a' (fun h=>gN (by rw[← AO];exact h)) lk ?_
   rw[AO]
   exact hk.mono ((fg.weaken hn).trans pd (Nat.le_refl _)) (Nat.le_refl _)
  | exit id s'=>exact hk _ c' w' a' (hs _ hR rfl) mK (Nat.le_trans hn hle) oL (fg.weaken hn)
  | ret s'=>exact hk _ c' w' a' (hs _ hR rfl) mK (Nat.le_trans hn hle) oL (fg.weaken hn)
 | @kX rf live x s f first cap fn R1 R mK hx hf hp h k ih=>
  intro N code hc ro n Q c w a gN eX hk
  have V4:=gN mK
  subst V4
  cases hc with
  | kX Wu qI=>
   obtain⟨func,code,h1,h2,t1,t2,t3,_⟩:=(hT.fn f fn hf).ex
   exact aeF eX Wu hx t3 qI (live:=live) (R1:=yT R1) (R:=outs R) ih k hk
 | @exit id s R h=>
  intro N code hc ro n Q c w a gN eX hk
  cases hc
  exact wpIn_exit (hk _ c w a h rfl (Nat.le_refl _) eX (Step.refl _ _ _ _))
 | @ret s R h=>
  intro N code hc ro n Q c w a gN eX hk
  cases hc
  exact wpIn_ret (hk _ c w a h rfl (Nat.le_refl _) eX (Step.refl _ _ _ _))
 | @call f args H fn R1 R own hf hl h k ih=>
  intro c w vs eX gX
  obtain⟨func,code,hs,fW,t1,t2,t3,t7,t4,t5,t6⟩:=(hT.fn f fn hf).ex
  have AO:=ac5 hT.rt t1 t2 t7
  rw[t5]at AO
  refine callsIn_wide (n:=0) |>.1 (callsIn_of_wp_marks (F:=FW none) t1 t2 trivial (ih fn.ntmps code (HN AO t4) none 0 _ c w _ (fun _=>rfl) ⟨eX,Te gX _,?_,.nil⟩ ?_))
  ·simp;omega
  ·intro o c' w' a' hR mK hle lQ fg
   obtain⟨d,H',kR,UF⟩:=k o hR
   have main:∀ s:St,o.st=s→∀ H1,kill s.marks s.H=some H1→∀ d0,AL.results fn { s with H:=H1 }=some d0→leave own H.length H1 d0=(d,H') →
     LeavesInM (FW none) 0 P func a'.tmps (fun e w'=>∃ v c' d H',e = .returned v∧yT R d H'∧H.length≤H'.length∧fj G c' H' w'∧eV c' w' v d∧Step H.length c H w c' H' w') a'.defers .returning w':=by
    rintro s rfl H1 Vt d0 x8 Vz
    refine XM lQ.marks lQ.eX Vt fun w1 q1 q2 q3=>?_
    have FX:ju G fn.ntmps c' w1 { o.st with H:=H1,marks:=[] } { a' with defers:=[] }:=⟨q1,fun j=>(lQ.env j).nX lQ.eX.toHeapOK q2,lQ.size,.nil⟩
    obtain⟨v,hv,JK⟩:=adj FX t6 (d:=d0) (by rw[← x8];exact adi { o.st with H:=H1 } [])
    have Vy:H.length≤H1.length:=by rw[q3];exact hle
    obtain⟨c2,k1,k2,k3,k4⟩:=XL q1 Vy own JK
    rw[Vz]at k1 k2 k3 k4
    exact⟨v,hv,v,c2,d,H',rfl,UF,k4,k1,k2,(fg.trans q2 hle).trans k3 (Nat.le_refl _)⟩
   have Oa:∀ s:St,finish fn own H.length (.norm s)=some (d,H')→∃ H1,kill s.marks s.H=some H1∧∃ d0,AL.results fn { s with H:=H1 }=some d0∧leave own H.length H1 d0=(d,H'):=by
    intro s hf
    simp only[finish]at hf
    split at hf
    ·rename_i H1 nz
     split at hf
     ·rename_i d0 jq
      exact⟨H1,nz,d0,jq,cW hf⟩
     ·cases hf
    ·cases hf
   cases o with
   | norm s=>
    obtain⟨H1,q1,d0,q2,q3⟩:=Oa s kR
    exact main s rfl H1 q1 d0 q2 q3
   | ret s=>
    obtain⟨H1,q1,d0,q2,q3⟩:=Oa s kR
    exact main s rfl H1 q1 d0 q2 q3
   | exit id s=>cases kR
end
end Go.AL
namespace Go.AL
open Go
def E6:Value→Value→Bool
 | .int k a,.int k' b=>decide (k=k')&&decide (a=b)
 | .bool a,.bool b=>a == b
 | .string a,.string b=>decide (a.data.toList=b.data.toList)
 | .nilFunc,.nilFunc=>true
 | .tuple a,.tuple b=>a.toList.isEmpty&&b.toList.isEmpty
 | _,_=>false
mutual
def mW:D→D→Bool
 | .any,.any=>true
 | .val a,.val b=>E6 a b
 | .agg a,.agg b=>pB a b
 | .tup a,.tup b=>pB a b
 | .sl n a,.sl m b=>decide (n=m)&&xC a b
 | .emp,.emp=>true
 | .eT a b c d e,.eT a' b' c' d' e'=>decide (a=a')&&decide (b=b')&&decide (c=c')&&decide (d=d')&&decide (e=e')
 | .ptr a b c,.ptr a' b' c'=>decide (a=a')&&decide (b=b')&&decide (c=c')
 | .fh a,.fh b=>pB a b
 | .omap a,.omap b=>decide (a=b)
 | .gP a,.gP b=>decide (a=b)
 | .fn (.func f) a b,.fn (.func f') a' b'=>decide (f=f')&&pB a a'&&pB b b'
 | _,_=>false
def pB:List D→List D→Bool
 | [],[]=>true
 | a::l,b::m=>mW a b&&pB l m
 | _,_=>false
def xC:List (List D)→List (List D)→Bool
 | [],[]=>true
 | a::l,b::m=>pB a b&&xC l m
 | _,_=>false
end
def vu:Env→Env→Bool
 | [],[]=>true
 | (i,a)::l,(j,b)::m=>decide (i=j)&&mW a b&&vu l m
 | _,_=>false
def xD:List (Value×D)→List (Value×D)→Bool
 | [],[]=>true
 | (i,a)::l,(j,b)::m=>E6 i j&&mW a b&&xD l m
 | _,_=>false
def Il:Ob→Ob→Bool
 | .row t g a,.row t' g' b=>decide (t=t')&&decide (g=g')&&pB a b
 | .map k a,.map k' b=>decide (k=k')&&xD a b
 | .gg r e s,.gg r' e' s'=>decide (r=r')&&vu e e'&&decide (s=s')
 | .pn a p,.pn b q=>decide (a.data.toList=b.data.toList)&&decide (p=q)
 | .jd m s l,.jd m' s' l'=>mW m m'&&decide (s=s')&&decide (l=l')
 | .jv,.jv=>true
 | .dead,.dead=>true
 | .hole,.hole=>true
 | _,_=>false
def vw:U→U→Bool
 | [],[]=>true
 | a::l,b::m=>Il a b&&vw l m
 | _,_=>false
def zZ(s t:St):Bool:=vu s.env t.env&&vw s.H t.H&&decide (s.marks=t.marks)&&(s.fG == t.fG)
def Im:Out→Out→Bool
 | .norm s,.norm t=>zZ s t
 | .exit i s,.exit j t=>decide (i=j)&&zZ s t
 | .ret s,.ret t=>zZ s t
 | _,_=>false
def Io(a b:D×U):Bool:=mW a.1 b.1&&vw a.2 b.2
def once{α:Type}(eq:α→α→Bool):List α→List α
 | []=>[]
 | [a]=>[a]
 | a::l=>let m:=once eq l;if m.any (eq a)then m else a::m
def oY{α β:Type}:List α→(α→Option (List β))→Option (List β)
 | [],_=>some []
 | [a],f=>f a
 | a::l,f=>match f a,oY l f with
  | some x,some y=>some (x++y)
  | _,_=>none
abbrev tz:=FuncId→List D→U→Option (List (D×U))
abbrev w6:=IR→St→Option (List Out)
def Qv(s:St)(args:List D):List Nat:=dedup (args.map (gh s.H 40)).flatten
def G2(cl:tz)(e:fC)(f:FuncId)(s:St):Option (List St):=
 match iW s.env.get e.op with
 | none=>none
 | some (f',args)=>if f'=f then(match cl f (args.map (eZ (fun _=>none) s.H 40)) []with
  | some l=>oY l fun p=>match after s e.dst args p.1 p.2 with
   | some s'=>some [s']
   | none=>none
  | none=>none)else none
def KJ(T:gj)(cl:tz)(e:fC)(s:St):Option (List St):=
 match iW s.env.get e.op with
 | none=>none
 | some (f,args)=>match T.fn f with
  | none=>none
  | some fn=>
   match fn.full with
   | true=>match cl f args s.H with
    | some l=>some (l.map fun p=>{ s with env:=put s.env e.dst p.1,H:=p.2 })
    | none=>none
   | false=>if fn.fz&&s.marks.isEmpty && !fy args then G2 cl e f (jx (Qv s args) s)else G2 cl e f s
def KN(T:gj)(rd:w6)(e:fC)(s:St)(v:Nat)(args:List D):Option (List St):=
 match s.H[v]? with
 | some (.gg rf env0 .ready)=>match T.round rf with
  | some Rd=>if args.length=Rd.params.length then
    match rd Rd.a { env:=pS Rd.params args env0,H:=s.H,fG:=true }with
    | some la=>match oY la fun o=>match o with
      | .norm s1=>match s1.H[v]? with
       | some (.gg Qz jw .ready)=>if Qz=rf then rd Rd.b { s1 with H:=s1.H.set v (.gg rf jw .busy) }else none
       | _=>none
      | _=>none with
     | some lb=>oY lb fun o=>match o.st.H[v]? with
      | some (.gg QA jo .busy)=>if QA=rf then some [{ s with env:=put s.env e.dst (.b !o.stop),H:=o.st.H.set v (.gg rf jo o.uR) }]else none
      | _=>none
     | none=>none
    | none=>none
   else none
  | none=>none
 | _=>none
def KM(e:fC)(s:St)(x:X):Option (List St):=
 match ev s.env.get x with
 | .ptr v 0 0=>match s.H[v]? with
  | some (.jd (.omap m) since seen)=>match s.H[m]? with
   | some (.map _ es)=>if es.length=since then
     let left:=(List.range es.length).filter fun i => !seen.contains i
     if left.isEmpty then some [{ s with env:=put s.env e.dst (.tup [.b false]) }]else
      some (left.filterMap fun i=>match es[i]? with
       | some (k,d)=>some { s with env:=put s.env e.dst (.tup [.b true,.val k,d]),H:=s.H.set v (.jd (.omap m) since (seen ++ [i])) }
       | none=>none)
    else none
   | _=>none
  | _=>none
 | _=>none
def sf(T:gj)(cl:tz)(rd:w6):List fC→St→Option (List St)
 | [],s=>some [s]
 | e::r,s=>match guardOf s.env.get e.guard with
  | none=>none
  | some false=>sf T cl rd r { s with env:=put s.env e.dst (.val undef) }
  | some true=>match fH s.env.get s.H s.H.length e.op with
   | some (d,δ)=>sf T cl rd r { s with env:=put s.env e.dst d,H:=δ.app s.H (Al.last s.H) }
   | none=>match kY s.env.get s.H s.H.length e.op with
    | some (d,δ)=>sf T cl rd r { s with env:=put s.env e.dst d,H:=δ.app s.H (Al.last s.H) }
    | none=>match e.op with
     | .nextM x=>match KM e s x with
      | some l=>oY l fun s'=>sf T cl rd r s'
      | none=>none
     | _=>match yieldOf s.env.get e.op with
      | some (v,args)=>match KN T rd e s v args with
       | some l=>oY l fun s'=>sf T cl rd r s'
       | none=>none
      | none=>match iW s.env.get e.op with
       | none=>none
       | some _=>match KJ T cl e s with
        | some l=>oY l fun s'=>sf T cl rd r s'
        | none=>none
def W0:gC→Bool
 | .callN _ _=>true
 | _=>false
def tq(T:gj)(cl:tz)(st:Bool):List fC→St→Option (List Rc×St)
 | [],s=>some ([],s)
 | e::r,s=>match guardOf s.env.get e.guard with
  | none=>none
  | some false=>match tq T cl st r { s with env:=put s.env e.dst (.val undef) }with
   | some (rs,s')=>some (⟨[],[]⟩::rs,s')
   | none=>none
  | some true=>match fH s.env.get s.H s.H.length e.op with
   | some (d,δ)=>match tq T cl st r { s with env:=put s.env e.dst d,H:=δ.app s.H (Al.last s.H) }with
    | some (rs,s')=>some (⟨fJ s.env.get s.H e.op,iy s.H.length δ⟩::rs,s')
    | none=>none
   | none=>match iW s.env.get e.op with
    | none=>none
    | some (f,args)=>match T.fn f with
     | none=>none
     | some fn=>if fn.full||(st&&fn.fz && !fy args && !W0 e.op)then none else match cl f (args.map (eZ (fun _=>none) s.H 40)) []with
      | some [(d,[])]=>if (if fy args then closed d else flat d)then(match tq T cl st r { s with env:=put s.env e.dst d }with
       | some (rs,s')=>some (⟨fJ s.env.get s.H e.op,[]⟩::rs,s')
       | none=>none)else(match e.op with
       | .callN _ _=>match (args.map (gh s.H 40)).flatten with
        | v::l=>if (l.all fun u=>decide (u=v))&&(rowsOf s.H v).isSome&&fy (args.map (eZ (fun _=>none) s.H 40))&&closed d then(match tq T cl st r { s with env:=put s.env e.dst d,H:=s.H.set v .dead }with
         | some (rs,s')=>some (⟨fJ s.env.get s.H e.op,[(v,none)]⟩::rs,s')
         | none=>none)else none
        | []=>none
       | _=>none)
      | some [(d,[ob])]=>match e.op with
       | .callN _ _=>if (if fy args then kW d&&l9 ob else mN d&&nk ob)then(match tq T cl st r { s with env:=put s.env e.dst (iX s.H.length d),H:=s.H ++ [ob] }with
        | some (rs,s')=>some (⟨fJ s.env.get s.H e.op,[(s.H.length,none)]⟩::rs,s')
        | none=>none)else none
       | _=>none
      | _=>none
def ox(T:gj)(cl:tz)(lp:Nat→List Nat→IR→St→Option (List Out))(rd:w6):IR→St→Option (List Out)
 | .skip,s=>some [.norm s]
 | .ops l,s=>match sf T cl rd l s with
  | some l=>some (l.map .norm)
  | none=>none
 | .draw im l,s=>match tq T cl true l s with
  | some (rs,s')=>if qX im rs then some [.norm s']else none
  | none=>if s.marks.isEmpty then(match tq T cl false l (jx (List.range s.H.length) s)with
   | some (rs,s')=>if qX im rs then some [.norm s']else none
   | none=>none)else none
 | .kF ..,_=>none
 | .seq a b,s=>match ox T cl lp rd a s with
  | some l=>oY l fun o=>match o with
   | .norm s'=>ox T cl lp rd b s'
   | o=>some [o]
  | none=>none
 | .cond c a b,s=>match ev s.env.get c with
  | .val (.bool true)=>ox T cl lp rd a s
  | .val (.bool false)=>ox T cl lp rd b s
  | _=>none
 | .block id live a,s=>match ox T cl lp rd a s with
  | some l=>some (once Im (l.map (k8 id s.H.length live)))
  | none=>none
 | .loop live a,s=>lp s.H.length live a { s with env:=forget live s.env }
 | .kX rf live x,s=>if s.fG then none else match ev s.env.get x with
  | .fn (.func f) first cap=>match T.fn f with
   | some fn=>if fn.full then
     match cl f (first ++ [.gP (s.H.length+1)]++cap) (s.H ++ [.jv,.gg rf (forget live s.env) .ready])with
     | some l=>oY l fun p=>match p.2[s.H.length+1]? with
      | some (.gg Qy _ st)=>if Qy=rf then(match wL { s with H:=p.2.set (s.H.length+1) .dead,marks:=s.H.length::s.marks } st with
       | some o=>some [o]
       | none=>none)else none
      | _=>none
     | none=>none
    else none
   | none=>none
  | _=>none
 | .exit id,s=>some [.exit id s]
 | .ret,s=>some [.ret s]
 | .bad,_=>none
 | .fz _ _,_=>none
 | .qE _ _ _,_=>none
abbrev rk:=List (FuncId×List D×List (D×U))
def Bz:rk→FuncId→List D→Option (List (D×U))
 | [],_,_=>none
 | (g,sA,l)::M,f,args=>match Nat.beq g f with
  | true=>match pB sA args with
   | true=>some l
   | false=>Bz M f args
  | false=>Bz M f args
def known(M:rk)(f:FuncId)(args:List D):U→Option (List (D×U))
 | []=>Bz M f args
 | _=>none
mutual
def wQ(T:gj)(M:rk):Nat→Nat→List Nat→IR→St→Option (List Out)
 | 0,_,_,_,_=>none
 | k+1,n,live,a,s=>match ox T (run T M k) (wQ T M k) (yH T M k) a s with
  | some l=>oY l fun o=>match o with
   | .norm s'=>wQ T M k n live a (cut n live s')
   | o=>some [o]
  | none=>none
def yH(T:gj)(M:rk):Nat→w6
 | 0,_,_=>none
 | k+1,c,s=>ox T (run T M k) (wQ T M k) (yH T M k) c s
def run(T:gj)(M:rk):Nat→tz
 | 0,_,_,_=>none
 | k+1,f,args,H=>match known M f args H with
  | some l=>some l
  | none=>match T.fn f with
  | none=>none
  | some fn=>if args.length≤fn.ntmps then(match ox T (run T M k) (wQ T M k) (yH T M k) fn.body { env:=pL args,H:=H }with
   | some l=>match oY l fun o=>match finish fn fn.own H.length o with
     | some p=>some [p]
     | none=>none with
    | some ps=>some (once Io ps)
    | none=>none
   | none=>none)else none
end
end Go.AL
namespace Go.AL
open Go
theorem Nc{a b:Value}(h:E6 a b=true):a=b:=by
 unfold E6 at h
 split at h
 ·simp only[ah,decide_eq_true_eq]at h;rw[h.1,h.2]
 ·simp only[beq_iff_eq]at h;rw[h]
 ·rename_i a b
  simp only[decide_eq_true_eq]at h
  have:a=b:=by
   cases a;cases b
   congr 1
   exact ey h
  rw[this]
 ·rfl
 ·simp only[ah,cS]at h
  rw[show _ = #[]from ey h.1,show _ = #[]from ey h.2]
 ·cases h
mutual
theorem zY:∀ {a b:D},mW a b=true→a=b
 | .any,b,h=>by cases b<;>simp[mW]at h ⊢
 | .val a,b,h=>by
  cases b<;>simp[mW]at h ⊢
  exact Nc h
 | .agg a,b,h=>by
  cases b<;>simp[mW]at h ⊢
  exact sJ h
 | .tup a,b,h=>by
  cases b<;>simp[mW]at h ⊢
  exact sJ h
 | .sl n a,b,h=>by
  cases b<;>simp[mW]at h ⊢
  exact⟨h.1,M9 h.2⟩
 | .emp,b,h=>by cases b<;>simp[mW]at h ⊢
 | .eT a1 a2 a3 a4 a5,b,h=>by
  cases b<;>simp[mW]at h ⊢
  simp[h]
 | .ptr a1 a2 a3,b,h=>by
  cases b<;>simp[mW]at h ⊢
  simp[h]
 | .fh a,b,h=>by
  cases b<;>simp[mW]at h ⊢
  exact sJ h
 | .omap a,b,h=>by cases b<;>simp[mW]at h ⊢;exact h
 | .gP a,b,h=>by cases b<;>simp[mW]at h ⊢;exact h
 | .fn f a a',b,h=>by
  cases f<;>cases b<;>first|(simp[mW]at h;done)|skip
  rename_i f g b b'
  cases g<;>simp[mW]at h ⊢
  exact⟨h.1.1,sJ h.1.2,sJ h.2⟩
theorem sJ:∀ {a b:List D},pB a b=true→a=b
 | [],[],_=>rfl
 | a::l,b::m,h=>by
  simp only[pB,ah]at h
  rw[zY h.1,sJ h.2]
 | [],_::_,h=>by simp[pB]at h
 | _::_,[],h=>by simp[pB]at h
theorem M9:∀ {a b:List (List D)},xC a b=true→a=b
 | [],[],_=>rfl
 | a::l,b::m,h=>by
  simp only[xC,ah]at h
  rw[sJ h.1,M9 h.2]
 | [],_::_,h=>by simp[xC]at h
 | _::_,[],h=>by simp[xC]at h
end
theorem Ij:∀ {a b:Env},vu a b=true→a=b
 | [],[],_=>rfl
 | (i,a)::l,(j,b)::m,h=>by
  simp only[vu,ah,decide_eq_true_eq]at h
  rw[h.1.1,zY h.1.2,Ij h.2]
 | [],_::_,h=>by simp[vu]at h
 | _::_,[],h=>by simp[vu]at h
theorem Na:∀ {a b:List (Value×D)},xD a b=true→a=b
 | [],[],_=>rfl
 | (i,a)::l,(j,b)::m,h=>by
  simp only[xD,ah]at h
  rw[Nc h.1.1,zY h.1.2,Na h.2]
 | [],_::_,h=>by simp[xD]at h
 | _::_,[],h=>by simp[xD]at h
theorem Tf{a b:Ob}(h:Il a b=true):a=b:=by
 unfold Il at h
 split at h
 ·simp only[ah,decide_eq_true_eq]at h;rw[h.1.1,h.1.2,sJ h.2]
 ·simp only[ah,decide_eq_true_eq]at h;rw[h.1,Na h.2]
 ·simp only[ah,decide_eq_true_eq]at h;rw[h.1.1,Ij h.1.2,h.2]
 ·rename_i a p b q
  simp only[ah,decide_eq_true_eq]at h
  have:a=b:=by
   cases a;cases b
   congr 1
   exact ey h.1
  rw[this,h.2]
 ·simp only[ah,decide_eq_true_eq]at h;rw[zY h.1.1,h.1.2,h.2]
 ·rfl
 ·rfl
 ·rfl
 ·cases h
theorem Ik:∀ {a b:U},vw a b=true→a=b
 | [],[],_=>rfl
 | a::l,b::m,h=>by
  simp only[vw,ah]at h
  rw[Tf h.1,Ik h.2]
 | [],_::_,h=>by simp[vw]at h
 | _::_,[],h=>by simp[vw]at h
theorem Ip{a b:St}(h:zZ a b=true):a=b:=by
 obtain⟨e,H,m,r⟩:=a
 obtain⟨e',H',m',r'⟩:=b
 simp only[zZ,ah,decide_eq_true_eq,beq_iff_eq]at h
 obtain⟨⟨⟨h1,h2⟩,h3⟩,h4⟩:=h
 rw[Ij h1,Ik h2,h3,h4]
theorem Tg{a b:Out}(h:Im a b=true):a=b:=by
 unfold Im at h
 split at h
 ·rw[Ip h]
 ·simp only[ah,decide_eq_true_eq]at h;rw[h.1,Ip h.2]
 ·rw[Ip h]
 ·cases h
theorem Th{a b:D×U}(h:Io a b=true):a=b:=by
 simp only[Io,ah]at h
 exact dH (zY h.1) (Ik h.2)
theorem GJ{α:Type}{eq:α→α→Bool}(h:∀ a b,eq a b=true→a=b):∀ {l:List α} {a:α},a∈l→a∈once eq l
 | [a],b,hb=>hb
 | a::b::l,c,hc=>by
  rw[once]
  ·split
   ·rename_i UK
    rcases aq.1 hc with rfl|hc
    ·obtain⟨d,hd,I5⟩:=dK.1 UK
     rw[h _ _ I5];exact hd
    ·exact GJ h hc
   ·rcases aq.1 hc with rfl|hc
    ·exact cd
    ·exact aW _ (GJ h hc)
  ·intro e;cases e
theorem sy{α β:Type}{f:α→Option (List β)}:∀ {l:List α} {r:List β},oY l f=some r→∀ a∈l,∃ y,f a=some y∧∀ b∈y,b∈r
 | [],r,_,a,ha=>by simp at ha
 | [a],r,h,b,hb=>by
  simp only[List.mem_singleton]at hb
  subst hb
  exact⟨r,h,fun _ h=>h⟩
 | a::b::l,r,h,c,hc=>by
  rw[oY]at h
  ·split at h
   ·rename_i x y hx hy
    cases h
    rcases aq.1 hc with rfl|hc
    ·exact⟨x,hx,fun _ h=>aR _ h⟩
    ·obtain⟨z,hz,WM⟩:=sy hy c hc
     exact⟨z,hz,fun d hd=>bw _ (WM d hd)⟩
   ·cases h
  ·intro e;cases e
section
variable{T:gj}{cl:tz}{rd:w6}
def rj(l:List Out):mS→Prop:=fun r=>∃ o∈l,r = .out o
def zl(l:List St):mS→Prop:=fun r=>∃ s∈l,r = .out (.norm s)
def pv(l:List (D×U)):mS→Prop:=fun r=>∃ p∈l,r = .val p.1 p.2
def oB(T:gj)(cl:tz):Prop:=∀ f args H l,cl f args H=some l→Ev T (.call f args H) (pv l)
def En(T:gj)(rd:w6):Prop:=∀ c s l,rd c s=some l→Ev T (.code c s) (rj l)
theorem rj.out{l:List Out}{o:Out}(h:rj l (.out o)):o∈l:=by
 obtain⟨o',h1,h2⟩:=h
 cases h2;exact h1
theorem pv.val{l:List (D×U)}{d:D}{H:U}(h:pv l (.val d H)):(d,H)∈l:=by
 obtain⟨o',h1,h2⟩:=h
 cases h2;exact h1
theorem zl.sub{a b:List St}(h:∀ s∈a,s∈b){r:mS}(hr:zl a r):zl b r:=by
 obtain⟨s,h1,h2⟩:=hr
 exact⟨s,h s h1,h2⟩
theorem rj.sub{a b:List Out}(h:∀ s∈a,s∈b){r:mS}(hr:rj a r):rj b r:=by
 obtain⟨s,h1,h2⟩:=hr
 exact⟨s,h s h1,h2⟩
theorem Ub{S:List Nat}{s:St}{g:Option (Nat×Bool)}{b:Bool}(h:guardOf s.env.get g=some b):guardOf (jx S s).env.get g=some b:=by
 cases g with
 | none=>exact h
 | some p=>
  simp only[guardOf,jx]at h ⊢
  have e:Env.get (s.env.map fun p=>(p.1,eZ (fL (jR s.H S)) s.H 40 p.2)) p.1=eZ (fL (jR s.H S)) s.H 40 (s.env.get p.1):=by
   generalize s.env=env
   induction env with
   | nil=>rfl
   | cons q r ih=>
    obtain⟨j,d⟩:=q
    simp only[List.map_cons,Env.rE]
    split
    ·rfl
    ·exact ih
  rw[e]
  split at h
  ·rename_i x hx
   rw[hx]
   have:eZ (fL (jR s.H S)) s.H 40 (.val (.bool x)) = .val (.bool x):=by unfold eZ;rfl
   rw[this]
   exact h
  ·rename_i vs hx
   rw[hx]
   have:eZ (fL (jR s.H S)) s.H 40 (.val (.tuple vs)) = .val (.tuple vs):=by unfold eZ;rfl
   rw[this]
   exact h
  ·cases h
theorem QQ(fQ:oB T cl){e:fC}{r:List fC}{f:FuncId}{fn:eW}{s:St}{l:List St}{R:mS→Prop}(hg:guardOf s.env.get e.guard=some true)(hf:T.fn f=some fn)(hp:fn.full=false)
  (h:G2 cl e f s=some l) (k:∀ s'∈l,Ev T (.ops r s') R):Ev T (.ops (e::r) s) R:=by
 unfold G2 at h
 split at h
 ·cases h
 ·rename_i f' args hc
  split at h
  ·rename_i e1
   subst e1
   split at h
   ·rename_i l0 ix
    have hm:=sy h
    refine .zG hg hc hf hp (fQ _ _ _ _ ix) (fun d Hn hd=>?_) fun d Hn s' hd fW=>?_
    ·obtain⟨y,hy,_⟩:=hm _ hd.val
     dsimp only at hy
     split at hy
     ·rename_i q;rw[q];rfl
     ·cases hy
    ·obtain⟨y,hy,jj⟩:=hm _ hd.val
     dsimp only at hy
     rw[fW]at hy
     cases hy
     exact k s' (jj s' (by simp))
   ·cases h
  ·cases h
theorem ady(fQ:oB T cl){e:fC}{r:List fC}{s:St}{l:List St}{R:mS→Prop}(hg:guardOf s.env.get e.guard=some true)
  (h:KJ T cl e s=some l) (k:∀ s'∈l,Ev T (.ops r s') R):Ev T (.ops (e::r) s) R:=by
 unfold KJ at h
 split at h
 ·cases h
 ·rename_i f args hc
  split at h
  ·cases h
  ·rename_i fn hf
   split at h
   ·rename_i sR
    split at h
    ·rename_i l0 ix
     cases h
     refine .zF hg hc hf sR (fQ _ _ _ _ ix) fun d H' hd=>k _ ?_
     exact ao.2 ⟨(d,H'),hd.val,rfl⟩
    ·cases h
   ·rename_i sR
    split at h
    ·rename_i il
     simp only[ah,cS]at il
     refine .jx (Qv s args) ?_ (QQ fQ (Ub hg) hf sR h k)
     rw[il.1.2];rfl
    ·exact QQ fQ hg hf sR h k
theorem adA(rQ:En T rd){e:fC}{r:List fC}{s:St}{v:Nat}{args:List D}{l:List St}{R:mS→Prop}(hg:guardOf s.env.get e.guard=some true)(hc:yieldOf s.env.get e.op=some (v,args))
  (h:KN T rd e s v args=some l) (k:∀ s'∈l,Ev T (.ops r s') R):Ev T (.ops (e::r) s) R:=by
 unfold KN at h
 split at h
 ·rename_i rf env0 hv
  split at h
  ·rename_i Rd hR
   split at h
   ·rename_i hl
    split at h
    ·rename_i la ur
     split at h
     ·rename_i lb Vw
      have hA:=sy Vw
      have hB:=sy h
      refine .EA hg hc hv hR hl (rQ _ _ _ ur) (Rb:=rj lb) (fun o ho=>?_) (fun s1 jw kH ke=>?_) (fun o ho=>?_) fun o jo ho nA=>?_
      ·obtain⟨y,hy,_⟩:=hA o ho.out
       split at hy
       ·rename_i s1
        split at hy
        ·rename_i Qz jw ke
         split at hy
         ·rename_i e1;subst e1;exact⟨rfl,jw,ke⟩
         ·cases hy
        ·cases hy
       ·cases hy
      ·obtain⟨y,hy,jj⟩:=hA _ kH.out
       simp only[ke,if_true]at hy
       exact(rQ _ _ _ hy).mono fun r hr=>hr.sub jj
      ·obtain⟨y,hy,_⟩:=hB o ho.out
       split at hy
       ·rename_i QA jo nA
        split at hy
        ·rename_i e2;subst e2;exact⟨jo,nA⟩
        ·cases hy
       ·cases hy
      ·obtain⟨y,hy,jj⟩:=hB o ho.out
       simp only[nA,if_true]at hy
       cases hy
       exact k _ (jj _ (by simp))
     ·cases h
    ·cases h
   ·cases h
  ·cases h
 ·cases h
theorem adz{e:fC}{r:List fC}{s:St}{x:X}{l:List St}{R:mS→Prop}(hg:guardOf s.env.get e.guard=some true)(gv:e.op = .nextM x)
  (h:KM e s x=some l) (k:∀ s'∈l,Ev T (.ops r s') R):Ev T (.ops (e::r) s) R:=by
 unfold KM at h
 split at h
 ·rename_i v hx
  split at h
  ·rename_i m since seen hv
   split at h
   ·rename_i kk es hm
    split at h
    ·rename_i hs
     dsimp only at h
     refine .next hg gv hx hv hm hs (fun h0=>?_) fun i kv d hi FM=>?_
     ·rw[if_pos]at h
      ·cases h
       exact k _ (by simp)
      ·rw[cS,cF]
       intro i hi
       have:=h0 i (by simpa using hi)
       simpa using this
     ·have ft:=(ae.1 hi).1
      rw[if_neg]at h
      ·cases h
       refine k _ (bW.2 ⟨i,aK.2 ⟨by simpa using ft,by simpa using FM⟩,?_⟩)
       simp only[hi]
      ·rw[cS,cF]
       intro h0
       have:=h0 i (by simpa using ft)
       simp at this
       exact FM this
    ·cases h
   ·cases h
  ·cases h
 ·cases h
theorem BK(fQ:oB T cl)(rQ:En T rd):∀ (l:List fC) (s:St) (r:List St),sf T cl rd l s=some r→Ev T (.ops l s) (zl r)
 | [],s,r,h=>by cases h;exact .nil ⟨s,by simp,rfl⟩
 | e::r,s,res,h=>by
  have go:∀ {l:List St},(oY l fun s'=>sf T cl rd r s')=some res→∀ s'∈l,Ev T (.ops r s') (zl res):=fun hl s' fW=>by
   obtain⟨y,hy,jj⟩:=sy hl s' fW
   exact(BK fQ rQ r s' y hy).mono fun _ hr=>hr.sub jj
  simp only[sf]at h
  split at h
  ·cases h
  ·rename_i hg;exact .off hg (BK fQ rQ r _ _ h)
  ·rename_i hg
   split at h
   ·rename_i d δ ha;exact .op hg ha (BK fQ rQ r _ _ h)
   ·split at h
    ·rename_i d δ ha;exact .wU hg ha (BK fQ rQ r _ _ h)
    ·split at h
     ·rename_i x gv
      split at h
      ·rename_i l hl;exact adz hg gv hl (go h)
      ·cases h
     ·split at h
      ·rename_i v args hc
       split at h
       ·rename_i l hl;exact adA rQ hg hc hl (go h)
       ·cases h
      ·split at h
       ·cases h
       ·rename_i hc
        split at h
        ·rename_i l hl;exact ady fQ hg hl (go h)
        ·cases h
theorem wR(fQ:oB T cl)(st:Bool):∀ (l:List fC) (s:St) (rs:List Rc) (s':St),tq T cl st l s=some (rs,s')→Ev T (.trace l s) (fun r=>r = .tr rs s')
 | [],s,rs,s',h=>by cases h;exact .BZ rfl
 | e::r,s,rs,s',h=>by
  simp only[tq]at h
  split at h
  ·cases h
  ·rename_i hg
   split at h
   ·rename_i h1;cases h;exact .B0 hg (wR fQ st r _ _ _ h1) fun _ _ h=>by cases h;rfl
   ·cases h
  ·rename_i hg
   split at h
   ·rename_i d δ ha
    split at h
    ·rename_i h1;cases h;exact .B1 hg ha (wR fQ st r _ _ _ h1) fun _ _ h=>by cases h;rfl
    ·cases h
   ·split at h
    ·cases h
    ·rename_i f args hc
     split at h
     ·cases h
     ·rename_i fn hf
      split at h
      ·cases h
      ·rename_i sR
       have oh:fn.full=false:=by
        simp only[cu,not_or]at sR
        simpa using sR.1
       split at h
       ·rename_i d ix
        by_cases hr:(if fy args=true then closed d else flat d)=true
        ·rw[if_pos hr]at h
         split at h
         ·rename_i h1;cases h
          refine .BW hg hc hf oh (fQ _ _ _ _ ix) (fun d' Hn hd=>?_) hr (wR fQ st r _ _ _ h1) fun _ _ h=>by cases h;rfl
          have:=hd.val
          simp only[List.mem_singleton,ef]at this
          exact this
         ·cases h
        ·rw[if_neg hr]at h
         split at h
         ·rename_i g sA gv
          split at h
          ·rename_i v l gT
           split at h
           ·rename_i il
            simp only[ah,ar,decide_eq_true_eq]at il
            obtain⟨⟨⟨c1,c2⟩,c3⟩,c4⟩:=il
            split at h
            ·rename_i h1;cases h
             have mC:some (g,sA.map (ev s.env.get))=some (f,args):=by rw[← hc,gv];rfl
             cases mC
             refine .BY (v:=v) hg gv rfl hf oh (fun u hu=>?_) (by rw[gT];simp) c2 c3 (fQ _ _ _ _ ix) (fun d' Hn hd=>?_) c4 (wR fQ st r _ _ _ h1) fun _ _ h=>by cases h;rfl
             ·rw[gT]at hu
              rcases aq.1 hu with h|h
              ·exact h
              ·exact c1 u h
             ·have:=hd.val
              simp only[List.mem_singleton,ef]at this
              exact this
            ·cases h
           ·cases h
          ·cases h
         ·cases h
       ·rename_i d ob ix
        split at h
        ·rename_i g sA gv
         by_cases hr:(if fy args=true then kW d&&l9 ob else mN d&&nk ob)=true
         ·rw[if_pos hr]at h
          split at h
          ·rename_i h1;cases h
           have mC:some (g,sA.map (ev s.env.get))=some (f,args):=by rw[← hc,gv];rfl
           cases mC
           refine .BX hg gv rfl hf oh (fQ _ _ _ _ ix) (fun d' Hn hd=>?_) hr (wR fQ st r _ _ _ h1) fun _ _ h=>by cases h;rfl
           have:=hd.val
           simp only[List.mem_singleton,ef]at this
           exact this
          ·cases h
         ·rw[if_neg hr]at h;cases h
        ·cases h
       ·cases h
theorem KL(fQ:oB T cl)(rQ:En T rd){lp:Nat→List Nat→IR→St→Option (List Out)}(VC:∀ n live a s l,lp n live a s=some l→Ev T (.loop n live a s) (rj l)) :
  ∀ (c:IR) (s:St) (l:List Out),ox T cl lp rd c s=some l→Ev T (.code c s) (rj l):=by
 intro c
 induction c with
 | skip=>intro s l h;cases h;exact .skip ⟨_,by simp,rfl⟩
 | ops ops=>
  intro s l h
  simp only[ox]at h
  split at h
  ·rename_i l0 h1
   cases h
   refine .zS ((BK fQ rQ _ _ _ h1).mono fun r hr=>?_)
   obtain⟨s',fW,rfl⟩:=hr
   exact⟨_,ao.2 ⟨s',fW,rfl⟩,rfl⟩
  ·cases h
 | kF im ops es=>intro s l h;simp[ox]at h
 | draw im ops=>
  intro s l h
  simp only[ox]at h
  split at h
  ·rename_i rs s' h1
   split at h
   ·rename_i hp;cases h;exact .draw (wR fQ _ _ _ _ _ h1) fun _ _ h=>by cases h;exact⟨hp,_,by simp,rfl⟩
   ·cases h
  ·split at h
   ·rename_i hm
    split at h
    ·rename_i rs s' h1
     split at h
     ·rename_i hp;cases h
      refine .Ab (List.range s.H.length) ?_ (.draw (wR fQ _ _ _ _ _ h1) fun _ _ h=>by cases h;exact⟨hp,_,by simp,rfl⟩)
      rw[cS]at hm
      rw[hm];rfl
     ·cases h
    ·cases h
   ·cases h
 | seq a b nB rU=>
  intro s l h
  simp only[ox]at h
  split at h
  ·rename_i l0 h1
   have hm:=sy h
   refine .seq (nB _ _ h1) (fun s' fW=>?_) fun o ho fg=>?_
   ·obtain⟨y,hy,jj⟩:=hm _ fW.out
    exact(rU _ _ hy).mono fun _ hr=>hr.sub jj
   ·obtain⟨y,hy,jj⟩:=hm _ ho.out
    cases o with
    | norm=>cases fg
    | exit id s'=>cases hy;exact⟨_,jj _ (by simp),rfl⟩
    | ret s'=>cases hy;exact⟨_,jj _ (by simp),rfl⟩
  ·cases h
 | cond c a b nB rU=>
  intro s o h
  simp only[ox]at h
  split at h
  ·rename_i hc;exact .cond (x:=true) hc (nB _ _ h)
  ·rename_i hc;exact .cond (x:=false) hc (rU _ _ h)
  ·cases h
 | block id live a nB=>
  intro s l h
  simp only[ox]at h
  split at h
  ·rename_i l0 h1
   cases h
   refine .block (nB _ _ h1) fun o ho=>⟨_,GJ (fun _ _=>Tg) (ao.2 ⟨o,ho.out,rfl⟩),rfl⟩
  ·cases h
 | loop live a nB=>intro s o h;exact .loop (VC _ _ _ _ _ h)
 | kX rf live x=>
  intro s l h
  simp only[ox]at h
  split at h
  ·cases h
  ·rename_i mK
   split at h
   ·rename_i f first cap hx
    split at h
    ·rename_i fn hf
     split at h
     ·rename_i sR
      split at h
      ·rename_i l0 ix
       have hm:=sy h
       refine .kX (by simpa using mK) hx hf sR (fQ _ _ _ _ ix) fun d H' hd=>?_
       obtain⟨y,hy,jj⟩:=hm _ hd.val
       dsimp only at hy
       split at hy
       ·rename_i Qy env st lZ
        split at hy
        ·rename_i e;subst e
         split at hy
         ·rename_i o ho
          cases hy
          exact⟨env,st,o,lZ,ho,_,jj _ (by simp),rfl⟩
         ·cases hy
        ·cases hy
       ·cases hy
      ·cases h
     ·cases h
    ·cases h
   ·cases h
 | exit id=>intro s o h;cases h;exact .exit ⟨_,by simp,rfl⟩
 | ret=>intro s o h;cases h;exact .ret ⟨_,by simp,rfl⟩
 | bad=>intro s o h;cases h
 | fz _ _=>intro s o h;cases h
 | qE _ _ _=>intro s o h;cases h
end
section
variable{T:gj}
def su(T:gj)(M:rk):Prop:=∀ p∈M,Ev T (.call p.1 p.2.1 []) (pv p.2.2)
theorem su.nil(T:gj):su T []:=fun p hp=>by cases hp
theorem su.cons{T:gj}{f:FuncId}{args:List D}{l:List (D×U)}{M:rk}(h:Ev T (.call f args []) (pv l))(t:su T M):su T ((f,args,l)::M):=fun p hp=>by
 rcases aq.1 hp with rfl|hp
 ·exact h
 ·exact t p hp
theorem ac6{M:rk}(hM:su T M){f:FuncId}{args:List D}{l:List (D×U)}(h:Bz M f args=some l):Ev T (.call f args []) (pv l):=by
 induction M with
 | nil=>cases h
 | cons p M ih=>
  obtain⟨g,sA,l'⟩:=p
  have NO:su T M:=fun q hq=>hM q (by simp[hq])
  simp only[Bz]at h
  split at h
  ·rename_i hg
   split at h
   ·rename_i ha
    cases h
    have:=hM (g,sA,l) (by simp)
    rw[sJ ha,cZ hg]at this
    exact this
   ·exact ih NO h
  ·exact ih NO h
theorem QU{M:rk}(hM:su T M):∀ k:Nat,(∀ n live a s l,wQ T M k n live a s=some l→Ev T (.loop n live a s) (rj l))∧En T (yH T M k)∧oB T (run T M k)
 | 0=>⟨fun _ _ _ _ _ h=>by simp[wQ]at h,fun _ _ _ h=>by simp[yH]at h,fun _ _ _ _ h=>by simp[run]at h⟩
 | k+1=>by
  obtain⟨i1,i2,i3⟩:=QU hM k
  refine⟨fun n live a s l h=>?_,fun c s l h=>?_,fun f args H l h=>?_⟩
  ·simp only[wQ]at h
   split at h
   ·rename_i l0 h1
    have hm:=sy h
    refine .uH (KL i3 i2 i1 _ _ _ h1) (fun s' fW=>?_) fun o ho fg=>?_
    ·obtain⟨y,hy,jj⟩:=hm _ fW.out
     exact(i1 _ _ _ _ _ hy).mono fun _ hr=>hr.sub jj
    ·obtain⟨y,hy,jj⟩:=hm _ ho.out
     cases o with
     | norm=>cases fg
     | exit id s'=>cases hy;exact⟨_,jj _ (by simp),rfl⟩
     | ret s'=>cases hy;exact⟨_,jj _ (by simp),rfl⟩
   ·cases h
  ·simp only[yH]at h
   exact KL i3 i2 i1 _ _ _ h
  ·simp only[run]at h
   split at h
   ·rename_i l0 hk
    cases h
    cases H with
    | nil=>exact ac6 hM hk
    | cons=>cases hk
   split at h
   ·cases h
   ·rename_i fn hf
    split at h
    ·rename_i hl
     split at h
     ·rename_i l0 h1
      split at h
      ·rename_i ps h2
       cases h
       have hm:=sy h2
       refine .call fn.own hf hl (KL i3 i2 i1 _ _ _ h1) fun o ho=>?_
       obtain⟨y,hy,jj⟩:=hm _ ho.out
       split at hy
       ·rename_i p hp
        cases hy
        exact⟨p.1,p.2,hp,p,GJ (fun _ _=>Th) (jj _ (by simp)),rfl⟩
       ·cases hy
      ·cases h
     ·cases h
    ·cases h
theorem wS{M:rk}(hM:su T M){k:Nat}{f:FuncId}{args:List D}{H:U}{l:List (D×U)}(h:run T M k f args H=some l):Ev T (.call f args H) (pv l):=(QU hM k).2.2 f args H l h
end
end Go.AL
namespace Go.AL
open Go
@[reducible] def o(k:Nat)(op:gC):fC:={ dst:=some k,op:=op,guard:=none }
@[reducible] def u(op:gC):fC:={ dst:=none,op:=op,guard:=none }
@[reducible] def og(j:Nat)(b:Bool)(k:Nat)(op:gC):fC:={ dst:=some k,op:=op,guard:=some (j,b) }
@[reducible] def ug(j:Nat)(b:Bool)(op:gC):fC:={ dst:=none,op:=op,guard:=some (j,b) }
@[reducible] def M(k j:Nat):fC:=o k (.mv (.t j))
@[reducible] def L(k j:Nat):fC:=o k (.ld1 (.t j))
@[reducible] def N(k n j:Nat):fC:=o k (.ldN n (.t j))
@[reducible] def F(k i j:Nat):fC:=o k (.fieldA i (.t j))
@[reducible] def A(k:Nat)(p:BinOp)(j:Nat)(n:Int):fC:=o k (.arith p (.t j) (.c (.i n)))
@[reducible] def B(k:Nat)(p:BinOp)(i j:Nat):fC:=o k (.arith p (.t i) (.t j))
@[reducible] def I(k n i j:Nat):fC:=o k (.idxA n (.t i) (.t j))
@[reducible] def cq(k:Nat)(n:Int):fC:=o k (.mv (.c (.i n)))
@[reducible] def sq(n i j:Nat):fC:=u (.stN n (.t i) (.t j))
@[reducible] def xq(k t j:Nat):fC:=o k (.box t (.t j))
@[reducible] def zq(k j:Nat):fC:=o k (.len .slice (.t j))
@[reducible] def pq(k a b:Nat):fC:=o k (.pick (.t a) (.c (.b true)) (.t b))
@[reducible] def rq(k a b:Nat):fC:=o k (.pick (.t a) (.t b) (.c (.b false)))
@[reducible] def kq(k f j:Nat):fC:=o k (.call f [.t j])
@[reducible] def G(i:Nat)(b:Bool)(k j:Nat):fC:=og i b k (.mv (.t j))
@[reducible] def fm(i:Nat)(b:Bool)(k j:Nat):fC:=og i b k (.ld1 (.t j))
@[reducible] def fu(i:Nat)(b:Bool)(k n j:Nat):fC:=og i b k (.fieldA n (.t j))
@[reducible] def fM(i:Nat)(b:Bool)(k:Nat)(p:BinOp)(j:Nat)(n:Int):fC:=og i b k (.arith p (.t j) (.c (.i n)))
@[reducible] def gR(i:Nat)(b:Bool)(k:Nat)(p:BinOp)(j n:Nat):fC:=og i b k (.arith p (.t j) (.t n))
@[reducible] def nE(k:Nat):fC:=o k (.mv (.c .emp))
@[reducible] def nF(k:Nat):fC:=o k (.mv (.c (.b false)))
@[reducible] def nT(k:Nat):fC:=o k (.mv (.c (.b true)))
@[reducible] def Q(l:List fC)(b:IR):IR:=.seq (.ops l) b
@[reducible] def cx(n k:Nat):IR:=.cond (.t n) .skip (.exit k)
def nth:List (Option eW)→Nat→Option eW
 | [],_=>none
 | a::_,0=>a
 | _::l,n+1=>nth l n
def assoc:List (Nat×nI)→Nat→Option nI
 | [],_=>none
 | (k,R)::l,n=>if k=n then some R else assoc l n
def elem(f:Nat):List Nat→Bool
 | []=>false
 | a::l=>if a=f then true else elem f l
def HH(fn:Func):Code:=fn.body.getD .skip
def GY(P:Program)(rf:Nat):Array Tmp:=match uS P rf with
 | some (_,ps,_,_)=>ps
 | none=>#[]
def GU(P:Program)(rf:Nat):Code:=match uS P rf with
 | some (_,_,a,_)=>a
 | none=>.skip
def GV(P:Program)(rf:Nat):Code:=match uS P rf with
 | some (_,_,_,b)=>b
 | none=>.skip
section
variable{P:Program}{G:GT}
theorem T5{f:FuncId}{fn:eW}{func:Func}{code:Code}{hs fW:List (List Nat)}(h1:P.funcs[f]? = some func)(h2:func.body=some code)(h3:o5 P f=true)(h4:(ml code).length≤64)
  (h5:cC P G fn.ntmps (64*f) hs code=some (fn.body,fW)) (h6:func.ntmps=fn.ntmps) (h7:vi P func.results.toList=some fn.results):zj P G f fn:=⟨⟨func,code,hs,fW,h1,h2,h3,h4,h5,h6,h7⟩⟩
theorem GX{rf:Nat}{R:nI}{N:Nat}{ps:Array Tmp}{ac bc:Code}(ha hb:List (List Nat))(h1:G.rt rf=some (N,ps,ac,bc))(h2:ps.toList=R.params)(h3:(R.params.all fun p=>decide (p<N))=true)
  (h4:ml ac = []∧ml bc = []) (h5:cC P G N 0 ha ac=some (R.a,[])) (h6:cC P G N 0 hb bc=some (R.b,[])):tH P G rf R:=
 ⟨⟨N,ps,ac,bc,h1,h2,h3,HN (fun i x hx=>by rw[h4.1]at hx;cases hx) h5,HN (fun i x hx=>by rw[h4.2]at hx;cases hx) h6⟩⟩
inductive sm(P:Program)(G:GT):Nat→List (Option eW)→Prop
 | nil (k:Nat):sm P G k []
 | has {k:Nat} {fn:eW} {l:List (Option eW)} (h:zj P G k fn) (t:sm P G (k+1) l):sm P G k (some fn::l)
 | no {k:Nat} {l:List (Option eW)} (t:sm P G (k+1) l):sm P G k (none::l)
inductive ve(P:Program)(G:GT):List (Nat×nI)→Prop
 | nil:ve P G []
 | cons {k:Nat} {R:nI} {l:List (Nat×nI)} (h:tH P G k R) (t:ve P G l):ve P G ((k,R)::l)
theorem sm.get:∀ {l:List (Option eW)} {k:Nat},sm P G k l→∀ (i:Nat) (fn:eW),nth l i=some fn→zj P G (k+i) fn:=by
 intro l k h
 induction h with
 | nil=>intro i fn hi;cases hi
 | has h t ih=>
  intro i fn hi
  cases i with
  | zero=>cases hi;exact h
  | succ i=>
   have:=ih i fn hi
   rwa [bj,cQ 1 i]at this
 | no t ih=>
  intro i fn hi
  cases i with
  | zero=>cases hi
  | succ i=>
   have:=ih i fn hi
   rwa [bj,cQ 1 i]at this
theorem ve.get{l:List (Nat×nI)}(h:ve P G l):∀ (i:Nat) (R:nI),assoc l i=some R→tH P G i R:=by
 induction h with
 | nil=>intro i R hi;cases hi
 | @cons k R0 l h t ih=>
  intro i R hi
  simp only[assoc]at hi
  split at hi
  ·rename_i e;subst e;cases hi;exact h
  ·exact ih i R hi
theorem aes{l:List (Option eW)}{r:List (Nat×nI)}{so:FuncId→Option Nat}(ya:G.rt=uS P)(h:sm P G 0 l)(h2:ve P G r){si:FuncId→Bool}(h3:∀ f sz,so f=some sz→sx P f sz)(h4:∀ f,si f=true→vf P f):Hx P G { fn:=nth l,round:=assoc r,sort:=so,po:=si } where
 sort:=h3
 po:=h4
 rt:=ya
 fn f fn hf:=by
  have:=h.get f fn hf
  rwa [aY]at this
 round:=h2.get
