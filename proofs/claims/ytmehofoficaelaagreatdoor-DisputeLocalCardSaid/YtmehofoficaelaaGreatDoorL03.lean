/- Part 3 of DisputeLocal. -/
import Derived.Test.YtmehofoficaelaaGreatDoorL02
import Derived.ChangeKeysEq
set_option linter.all false
namespace Go.AL
open Go
section
variable{P:Program}{G:GT}{c:Ctx}{H:U}{w:World}{K:iU}{env:gd}{a:Act}
def LM{x:D}{kv u:Value}(hr:eW c w u x)(h:keyOf x=some kv):u=kv:=by
 unfold keyOf at h
 split at h
 ·cases h;cases hr;rfl
 ·cases h;cases hr;rfl
 ·cases h;cases hr;rfl
 ·rename_i cs
  simp only[aj]at h
  obtain⟨l,hl,rfl⟩:=h
  cases hr with
  | agg vs _ hlen _ h1=>
   have key:∀ (cs:List D) (vs l:List Value),CA cs=some l→vs.length=cs.length→(∀ (i:Nat) (v:Value) (d:D),vs[i]? = some v→cs[i]? = some d→eW c w v d)→vs=l:=by
    intro cs
    induction cs with
    | nil=>intro vs l hl hlen _;simp[CA]at hl;subst hl;exact aW (by simpa using hlen)
    | cons d cs ih=>
     intro vs l hl hlen h1
     cases vs with
     | nil=>simp at hlen
     | cons v vs=>
      unfold CA at hl
      split at hl
      ·rename_i heq;cases heq
      ·rename_i k n r heq
       cases heq
       simp only[aj]at hl
       obtain⟨l',mc,rfl⟩:=hl
       have h0:=h1 0 v _ rfl rfl
       cases h0
       rw[ih vs l' mc (by simpa using hlen) (fun i v d hv hd=>h1 (i+1) v d (by simpa using hv) (by simpa using hd))]
      ·cases hl
   rw[key cs vs l hl hlen h1]
 ·cases h
def uZ:List Value→List Value→Bool
 | .int k a::x,.int k' b::y=>k == k'&&a == b&&uZ x y
 | [],[]=>true
 | _,_=>false
def T5{t:TypeId}{k:IntKind}(h:P.underlying t=some (.int k)):nG P t=some false:=by simp[nG,h]
def zY{k:IntKind}{ks:List IntKind}{vs:List Value}(h:qk (k::ks) vs=true):∃ n vr,vs = .int k n::vr∧qk ks vr=true:=by
 cases vs with
 | nil=>cases h
 | cons v vr=>
  cases v<;>simp[qk]at h
  obtain⟨rfl,h⟩:=h
  exact⟨_,_,rfl,h⟩
def Mr{t:TypeId}{k k':IntKind}(h:P.underlying t=some (.int k)){vs:List Value}{i:Nat}{n:Int}(hv:vs[i]? = some (.int k' n)):(part t vs.toArray i).run P w = .ok (.int k' n) w:=by
 simp[part,yA (T5 h) w,hv]
theorem Pq(d:Nat){vs us:List Value}:∀ (fs:List Field) (i:Nat) (ks:List IntKind),xW P i fs=some ks→qk ks (vs.drop i)=true→qk ks (us.drop i)=true →
  (Op.eqFields (d+1) vs.toArray us.toArray fs).run P w = .ok (uZ (vs.drop i) (us.drop i)) w
 | [],i,ks,h,hv,hu=>by
  cases h
  cases hx:vs.drop i with
  | nil=>cases hy:us.drop i with
   | nil=>rfl
   | cons y yr=>rw[hy]at hu;cases hu
  | cons x xr=>rw[hx]at hv;cases hv
 | f::fs,i,ks,h,hv,hu=>by
  simp only[xW]at h
  split at h
  ·rename_i k LN hk qA
   split at h
   ·rename_i hc
    obtain⟨zK,B6⟩:=hc
    cases h
    obtain⟨n,vr,hx,kP⟩:=zY hv
    obtain⟨m,ur,hy,HR⟩:=zY hu
    have xT:vs[i]? = some (.int k n):=by have:=congrArg (·[0]?) hx;simpa using this
    have Cm:us[i]? = some (.int k m):=by have:=congrArg (·[0]?) hy;simpa using this
    have vX:vs.drop (i+1)=vr:=by rw[← bT,hx];rfl
    have zU:us.drop (i+1)=ur:=by rw[← bT,hy];rfl
    have ih:=Pq d fs (i+1) LN qA (by rw[vX];exact kP) (by rw[zU];exact HR)
    rw[vX,zU]at ih
    rw[hx,hy]
    simp only[Op.eqFields,if_pos B6,Sem.run_bind,zK,Mr hk xT,Mr hk Cm,Result.andThen_ok,run_equalIn_int w d f.type k k n m hk,Sem.run_ite,ih,uZ]
    cases n == m<;>simp
   ·cases h
  ·cases h
def Rv{l:List IntKind}:∀ {a b:List Value},qk l a=true→qk l b=true→mV (.agg a.toArray) (.agg b.toArray)=uZ a b:=by
 induction l with
 | nil=>intro a b h1 h2;cases a<;>cases b<;>simp[qk]at h1 h2;simp[mV,uZ]
 | cons k ks ih=>
  intro a b h1 h2
  obtain⟨n,a',rfl,g1⟩:=zY h1
  obtain⟨m,b',rfl,g2⟩:=zY h2
  have h:=ih g1 g2
  simp[mV,uZ]at h ⊢
  rw[← h]
  cases n == m<;>cases a'.length == b'.length<;>simp
theorem T0:∀ {a b:List Value},uZ a b=true→a=b
 | [],[],_=>rfl
 | .int k n::a,.int k' m::b,h=>by
  simp[uZ]at h
  obtain⟨⟨rfl,rfl⟩,h⟩:=h
  rw[T0 h]
 | [],_::_,h=>by simp[uZ]at h
theorem Te(n:Nat):∀ {l:List IntKind} {a:List Value},qk l a=true→(a.zip a).all (fun(x,y)=>Instr.sameBits n x y)=true
 | [],[],_=>rfl
 | k::l,v::a,h=>by
  obtain⟨m,r,e,h⟩:=zY h
  cases e
  simp only[List.zip_cons_cons,List.all_cons,Te n h]
  cases n<;>simp[Instr.sameBits]
def KC(P:Program)(t:TypeId)(d:TypeDesc)(kk:KK):Prop:=(∃ k,d = .int k∧kk = .int k)∨(d = .string∧kk = .str)∨(d = .bool∧kk = .bool)∨∃ fs l,d = .struct fs∧kk = .ints l∧xW P 0 fs.toList=some l∧P.stoodInHeld t=false
def Ja{t:TypeId}{kk:KK}(h:rv P t=some kk):∃ d,P.underlying t=some d∧KC P t d kk:=by
 unfold rv at h
 split at h
 ·rename_i fs hu
  split at h
  ·rename_i hs
   obtain⟨l,hl,rfl⟩:=aj.1 h
   exact⟨_,hu,.inr (.inr (.inr ⟨fs,l,rfl,rfl,hl,hs⟩))⟩
  ·cases h
 ·rename_i k hu;cases h;exact⟨_,hu,.inl ⟨k,rfl,rfl⟩⟩
 ·rename_i hu;cases h;exact⟨_,hu,.inr (.inl ⟨rfl,rfl⟩)⟩
 ·rename_i hu;cases h;exact⟨_,hu,.inr (.inr (.inl ⟨rfl,rfl⟩))⟩
 ·cases h
def UG{t:TypeId}{k:IntKind}(h:P.underlying t=some (.int k))(b:Bool)(n:Nat)(m:Int):(Instr.checkKey b (n+1) t (.int k m)).run P w = .ok () w:=by
 unfold Instr.checkKey
 simp only[Sem.run_bind,run_underlying h,Result.andThen_ok]
 rfl
def run_checkKey{t:TypeId}{kk:KK}(h:rv P t=some kk)(b:Bool){kv:Value}(hk:kk.has kv=true)(w:World):(Instr.checkKey b 10000 t kv).run P w = .ok () w:=by
 obtain⟨d,hd,hc⟩:=Ja h
 unfold Instr.checkKey
 rcases hc with⟨k,rfl,rfl⟩|⟨rfl,rfl⟩|⟨rfl,rfl⟩|⟨fs,l,rfl,rfl,pj,_⟩
 ·simp only[Sem.run_bind,run_underlying hd,Result.andThen_ok];rfl
 ·simp only[Sem.run_bind,run_underlying hd,Result.andThen_ok];rfl
 ·simp only[Sem.run_bind,run_underlying hd,Result.andThen_ok];rfl
 ·cases kv<;>simp[KK.has]at hk
  rename_i cs
  obtain⟨vs⟩:=cs
  simp only[Sem.run_bind,run_underlying hd,Result.andThen_ok]
  rw[← Array.forIn_toList]
  have h0:qk l (vs.drop 0)=true:=by simpa using hk
  clear hk h
  obtain⟨i,hi⟩:∃ i,i=0:=⟨_,rfl⟩
  rw[← hi]at pj h0
  clear hi hd
  generalize fs.toList=fl at pj ⊢
  induction fl generalizing i l with
  | nil=>simp
  | cons f fl ih=>
   simp only[xW]at pj
   split at pj
   ·rename_i k LN hk qA
    split at pj
    ·rename_i hc
     obtain⟨zK,B6⟩:=hc
     cases pj
     obtain⟨n,vr,hx,kP⟩:=zY h0
     have xT:vs[i]? = some (.int k n):=by have:=congrArg (·[0]?) hx;simpa using this
     have vX:vs.drop (i+1)=vr:=by rw[← bT,hx];rfl
     have Cu:=ih LN (i+1) (by rw[vX];exact kP) qA
     rw[List.forIn_cons]
     simp only[if_pos B6,Sem.run_bind,zK,Mr hk xT,Result.andThen_ok,UG hk,Sem.run_pure]
     exact Cu
    ·cases pj
   ·cases pj
def mE(kv:Value):List MapEntry→Nat→Option (Nat×Value)
 | [],_=>none
 | e::es,i=>if mV kv e.key then some (i,e.val)else mE kv es (i+1)
def J5{d:TypeDesc}{kk:KK}(hc:(∃ k,d = .int k∧kk = .int k)∨(d = .string∧kk = .str)∨(d = .bool∧kk = .bool)){kv:Value}(hk:kk.has kv=true) :
  ∀ (es:List MapEntry) (i:Nat),(∀ e∈es,kk.has e.key=true)→Instr.findNow d kv es i=some (mE kv es i):=by
 intro es
 induction es with
 | nil=>intro i _;rfl
 | cons e es ih=>
  intro i h
  have he:=h e (by simp)
  have Cu:=ih (i+1) (fun e he=>h e (by simp[he]))
  unfold Instr.findNow mE
  have hs:Instr.sameNow d kv e.key=some (mV kv e.key):=by
   obtain⟨key,val,born⟩:=e
   rcases hc with⟨k,rfl,rfl⟩|⟨rfl,rfl⟩|⟨rfl,rfl⟩<;>cases kv<;>simp[KK.has]at hk<;>cases key<;>simp[KK.has]at he<;>simp[Instr.sameNow,mV]
   subst hk;subst he;simp
  rw[hs]
  cases mV kv e.key
  ·simp only[Cu];rfl
  ·rfl
theorem PJ{t:TypeId}{fs:Array Field}{l:List IntKind}(hd:P.underlying t=some (.struct fs))(pj:xW P 0 fs.toList=some l)(fm:P.stoodInHeld t=false){kv:Value}(hk:(KK.ints l).has kv=true)(w:World) :
  ∀ (es:List MapEntry) (i:Nat),(∀ e∈es,(KK.ints l).has e.key=true)→(Instr.findAsking t kv es i).run P w = .ok (mE kv es i) w
 | [],i,_=>rfl
 | e::es,i,h=>by
  have he:=h e (by simp)
  have ih:=PJ hd pj fm hk w es (i+1) fun e he=>h e (by simp[he])
  have hf:P.underlying t=some (.struct (P.fieldsOf t)):=by unfold Program.fieldsOf;rw[hd]
  have KR:P.fieldsOf t=fs:=by unfold Program.fieldsOf;rw[hd]
  obtain⟨key,val,born⟩:=e
  cases kv<;>simp[KK.has]at hk
  cases key<;>simp[KK.has]at he
  rename_i cs ds
  obtain⟨vs⟩:=cs
  obtain⟨us⟩:=ds
  dsimp only at hk he
  have heq:(Op.equal t (.agg ⟨vs⟩) (.agg ⟨us⟩)).run P w = .ok (mV (.agg ⟨vs⟩) (.agg ⟨us⟩)) w:=by
   show(Op.equalIn 10000 t (.agg ⟨vs⟩) (.agg ⟨us⟩)).run P w=_
   rw[run_equalIn_struct w 9999 t ⟨vs⟩ ⟨us⟩ hf fm,KR,Rv hk he]
   exact Pq 9998 (vs:=vs) (us:=us) fs.toList 0 l pj (by simpa using hk) (by simpa using he)
  unfold Instr.findAsking mE
  simp only[Sem.run_bind,heq,Result.andThen_ok,Sem.run_ite,ih]
  cases mV (.agg ⟨vs⟩) (.agg ⟨us⟩)<;>simp
def run_findKey{t:TypeId}{kk:KK}(h:rv P t=some kk){kv:Value}(hk:kk.has kv=true)(es:List MapEntry)(oh:∀ e∈es,kk.has e.key=true)(w:World) :
  (Instr.findKey t kv es).run P w = .ok (mE kv es 0) w:=by
 obtain⟨d,hd,hc⟩:=Ja h
 rcases hc with hc|hc|hc|⟨fs,l,rfl,rfl,pj,fm⟩
 ·simp[Instr.findKey,run_underlying hd,J5 (.inl hc) hk es 0 oh]
 ·simp[Instr.findKey,run_underlying hd,J5 (.inr (.inl hc)) hk es 0 oh]
 ·simp[Instr.findKey,run_underlying hd,J5 (.inr (.inr hc)) hk es 0 oh]
 ·cases es with
  | nil=>simp[Instr.findKey,run_underlying hd,Instr.findNow,mE]
  | cons e es=>
   have hn:Instr.findNow (.struct fs) kv (e::es) 0=none:=by
    unfold Instr.findNow
    cases kv<;>cases e.key<;>simp[Instr.sameNow]
   simp only[Instr.findKey,Sem.run_bind,run_underlying hd,Result.andThen_ok,hn]
   exact PJ hd pj fm hk w (e::es) 0 oh
theorem Rg:∀ {l:List IntKind} {vs:List Value},qk l vs=true→∀ v∈vs,v.oneCell'=true
 | [],[],_,v,hv=>by cases hv
 | k::ks,.int k' n::vs,h,v,hv=>by
  simp only[qk,ah]at h
  rcases av.1 hv with rfl|hv
  ·rfl
  ·exact Rg h.2 v hv
def SP{kk:KK}{v:Value}(h:kk.has v=true):eW c w v (ru v):=by
 unfold ru
 split
 ·rename_i cs
  cases kk<;>simp only[KK.has]at h<;>first|(cases h;done)|skip
  have:=eW.agg (c:=c) (w:=w) cs.toList (cs.toList.map .val) (by simp) (Rg h) (fun i v d hv hd=>by
   simp only[aq,hv,aH,ak]at hd
   subst hd
   exact .val _)
  simpa using this
 ·exact .val _
def L7{arr:Array MapEntry}{clock:Nat}{es:List (Value×D)}(hm:A2 c w arr clock es){kk:KK}(hk:∀ x∈es,kk.has x.1=true):∀ e∈arr.toList,kk.has e.key=true:=by
 intro e he
 obtain⟨i,hi⟩:=aG.1 he
 have hl:i<es.length:=by rw[← hm.1];have:=(af.1 hi).1;simpa using this
 obtain⟨h1,_⟩:=hm.2.1 i e es[i] (by simpa using hi) (by simp[hl])
 rw[h1]
 exact hk _ (bF hl)
theorem BC(kv:Value):∀ (l:List MapEntry) (es:List (Value×D)) (i:Nat),l.length=es.length →
  (∀ (j:Nat) (e:MapEntry) (x:Value×D),l[j]? = some e→es[j]? = some x→e.key=x.1∧eW c w e.val x.2) →
  (mE kv l i=none∧o4 es kv=none∧∀ y,lK es kv y=es ++ [(kv,y)]) ∨
  (∃ j v d,mE kv l i=some (i+j,v)∧o4 es kv=some d∧eW c w v d∧j<l.length∧(∀ y,lK es kv y=es.set j (kv,y))∧∃ e,l[j]? = some e∧mV kv e.key=true)
 | [],[],i,_,_=>.inl ⟨rfl,rfl,fun _=>rfl⟩
 | e::l,(k,d)::es,i,hl,h=>by
  obtain⟨hk,hr⟩:=h 0 e (k,d) rfl rfl
  dsimp only at hk hr
  by_cases he:mV kv e.key=true
  ·refine .inr ⟨0,e.val,d,by simp[mE,he],by simp[o4,← hk,he],hr,by simp,fun y=>by simp[lK,← hk,he],e,rfl,he⟩
  ·have s6:mV kv k=false:=by rw[← hk];simpa using he
   rcases BC kv l es (i+1) (by simpa using hl) (fun j e x he hx=>h (j+1) e x (by simpa using he) (by simpa using hx))with⟨h1,h2,h3⟩|⟨j,v,d',h1,h2,h3,h4,h5,e',h6,h7⟩
   ·exact .inl ⟨by simp[mE,he,h1],by simp[o4,s6,h2],fun y=>by simp[lK,s6,h3]⟩
   ·exact .inr ⟨j+1,v,d',by simp[mE,he,h1];omega,by simp[o4,s6,h2],h3,by simp;omega,fun y=>by simp[lK,s6,h5],e',by simpa using h6,h7⟩
def aeK(h:fr G c H w){t k e:TypeId}{kk:KK}{z:D}(hu:P.underlying t=some (.map k e))(ko:rv P k=some kk)(hz:AE P e=some z)(ok:Bool){m x:D}{u v:Value}(h1:eW c w u m)(h2:eW c w v x)
  (hk:CH kk z ok m x H K):∃ r,(Instr.lookup t u v ok).run P w = .ok r w∧iB G c H w K r w:=by
 have hzero:∃ zv,(zeroValue e).run P w = .ok zv w∧eW c w zv z:=by
  unfold AE at hz
  cases hi:P.info? e with
  | none=>simp[hi]at hz
  | some i=>
   simp only[hi,Option.bind_some]at hz
   cases xU:i.zero with
   | none=>simp[xU]at hz
   | some zv=>
    simp only[xU,Option.bind_some]at hz
    exact⟨zv,by simp[zeroValue,run_typeInfo hi,xU],ME hz⟩
 obtain⟨zv,sk,Co⟩:=hzero
 unfold CH at hk
 split at hk
 ·rename_i v0 kv BX
  split at hk
  ·rename_i nj es oh
   obtain⟨rfl,rh,hk⟩:=hk
   have hv:=LM h2 BX
   subst hv
   cases h1 with
   | gF _ L e9 gI=>
    have gD:=h.ob v0 _ (qH oh)
    simp only[Ob.gen]at gD
    rw[e9]at gD
    simp only[gq]at gD
    obtain⟨_,qd,arr,clock,hm,jj⟩:=gD
    have xD:=run_findKey ko rh arr.toList (L7 jj qd) w
    have xC:=run_checkKey (w:=w) ko arr.isEmpty rh
    have gK:(Instr.lookup t (.map (some L.b)) v ok).run P w=((match mE v arr.toList 0 with
      | some (_,v)=>Result.ok (v,true) w
      | none=>Result.ok (zv,false) w:Result (Value×Bool)).andThen fun p w=>.ok (if ok then .tuple #[p.1,.bool p.2]else p.1) w):=by
     have s7:(getObj L.b).run P w = .ok (.map arr clock) w:=by simp[getObj,Sem.run,hm]
     simp only[Instr.lookup,Sem.run_bind,run_underlying hu,Result.andThen_ok,s7,Sem.run_pure,xC,xD]
     cases mE v arr.toList 0 with
     | none=>simp[sk]
     | some p=>obtain⟨_,_⟩:=p;simp
    rcases BC (c:=c) (w:=w) v arr.toList es 0 (by simpa using jj.1) (fun j e x he hx=>let ⟨a,b,_⟩:=jj.2.1 j e x (by simpa using he) hx;⟨a,b⟩)with⟨f1,f2,_⟩|⟨j,val,d,f1,f2,f3,_⟩
    ·rw[f1]at gK
     rw[f2]at hk
     refine⟨_,gK,.plain h hk ?_⟩
     cases ok
     ·exact Co
     ·exact .tup [zv,.bool false] [z,.val (.bool false)] rfl (fun i v d hv hd=>by
       match i with
       | 0=>simp at hv hd;subst hv;subst hd;exact Co
       | 1=>simp at hv hd;subst hv;subst hd;exact .val _
       | i+2=>simp at hv)
    ·rw[f1]at gK
     rw[f2]at hk
     refine⟨_,gK,.plain h hk ?_⟩
     cases ok
     ·exact f3
     ·exact .tup [val,.bool true] [d,.val (.bool true)] rfl (fun i v d' hv hd=>by
       match i with
       | 0=>simp at hv hd;subst hv;subst hd;exact f3
       | 1=>simp at hv hd;subst hv;subst hd;exact .val _
       | i+2=>simp at hv)
  ·exact hk.elim
 ·exact hk.elim
def afX{kk:KK}(ko:kk = .str∨kk = .bool∨∃ k,kk = .int k){old new:Value}(h1:kk.has new=true)(h2:kk.has old=true)(h:mV new old=true):Instr.sameBits 10000 old new=true:=by
 rcases ko with rfl|rfl|⟨k,rfl⟩<;>cases new<;>simp[KK.has]at h1<;>cases old<;>simp[KK.has]at h2<;>simp[mV]at h<;>simp[Instr.sameBits]
 ·rename_i x y
  obtain⟨x⟩:=x
  obtain⟨y⟩:=y
  have h':(x == y)=true:=h
  have e:=eq_of_beq h'
  subst e
  exact h
 ·exact h.symm
 ·exact⟨h.1.symm,h.2.symm⟩
def Td{kk:KK}(ko:(kk = .str∨kk = .bool∨∃ k,kk = .int k)∨∃ l,kk = .ints l){old new:Value}(h1:kk.has new=true)(h2:kk.has old=true)(h:mV new old=true):Instr.sameBits 10000 old new=true:=by
 rcases ko with ko|⟨l,rfl⟩
 ·exact afX ko h1 h2 h
 ·cases new<;>simp[KK.has]at h1
  cases old<;>simp[KK.has]at h2
  rename_i cs ds
  obtain⟨vs⟩:=cs
  obtain⟨us⟩:=ds
  dsimp only at h1 h2
  have e:=T0 ((Rv h1 h2).symm.trans h)
  subst e
  have:=Te 9999 h1
  simp only[Instr.sameBits,beq_self_eq_true,Bool.true_and]
  exact this
def wI{G:GT}{c:Ctx}{H:U}{w:World}(h:fr G c H w){v:Nat}{ob ob':Ob}(hv:H[v]? = some ob)(ha:ob.alive=true)(oF:ob'.alive=true)(Hw:ob'.gen=ob.gen){L:Loc}(e9:c.ι v ob.gen=some L)(gI:L.jc=false)(o':Obj)
  (gD:∀ w',w'.heap[L.b]? = some o'→(∀ u d,eW c w u d→eW c w' u d)→gq c w' (some L) ob') :
  fr G c (H.set v ob') { w with heap:=w.heap.setIfInBounds L.b o' }∧Step H.length c H w c (H.set v ob') { w with heap:=w.heap.setIfInBounds L.b o' }:=by
 have gi:=h.lt _ ⟨v,L,⟨ob,hv,ha,e9⟩,gI,rfl⟩
 refine TX (w':={ w with heap:=w.heap.setIfInBounds L.b o' }) h hv ha oF Hw e9 gI ⟨rfl,Nat.le_refl _⟩ rfl rfl (by simp) (fun b hb=>?_) (gD _ (by simp[gi]))
 rw[bB (dB hb)]
def RW{es:List (Value×D)}{kv:Value}{y:D}:∀ x∈lK es kv y,x∈es∨x=(kv,y):=by
 induction es with
 | nil=>intro x hx;simp[lK]at hx;exact .inr hx
 | cons e es ih=>
  intro x hx
  obtain⟨k,d⟩:=e
  simp only[lK]at hx
  split at hx
  ·rcases av.1 hx with rfl|hx
   ·exact .inr rfl
   ·exact .inl (by simp[hx])
  ·rcases av.1 hx with rfl|hx
   ·exact .inl (by simp)
   ·rcases ih x hx with h|h
    ·exact .inl (by simp[h])
    ·exact .inr h
def Sk(h:fr G c H w){t k e:TypeId}{kk:KK}(hu:P.underlying t=some (.map k e))(ko:rv P k=some kk){m x y:D}{u v vy:Value}(h1:eW c w u m)(h2:eW c w v x)(h3:eW c w vy y)
  (hk:CL kk m x y H K):∃ w',(Instr.mapUpdate t u v vy).run P w = .ok () w'∧iB G c H w K undef w':=by
 have Lf:(kk = .str∨kk = .bool∨∃ k,kk = .int k)∨∃ l,kk = .ints l:=by
  obtain⟨d,_,hc⟩:=Ja ko
  rcases hc with⟨k,_,rfl⟩|⟨_,rfl⟩|⟨_,rfl⟩|⟨_,l,_,rfl,_⟩
  ·exact .inl (.inr (.inr ⟨k,rfl⟩))
  ·exact .inl (.inl rfl)
  ·exact .inl (.inr (.inl rfl))
  ·exact .inr ⟨l,rfl⟩
 unfold CL at hk
 split at hk
 ·rename_i v0 kv BX
  split at hk
  ·rename_i nj es oh
   obtain⟨rfl,rh,hk⟩:=hk
   have hv:=LM h2 BX
   subst hv
   cases h1 with
   | gF _ L e9 gI=>
    have gD:=h.ob v0 _ (qH oh)
    simp only[Ob.gen]at gD
    rw[e9]at gD
    simp only[gq]at gD
    obtain⟨_,qd,arr,clock,hm,jj⟩:=gD
    have BM:=L7 jj qd
    have xD:=run_findKey ko rh arr.toList BM w
    have xC:=run_checkKey (w:=w) ko false rh
    have BW:∀ y',∀ x∈lK es v y',nj.has x.1=true:=fun y' x hx=>by
     rcases RW x hx with h|rfl
     ·exact qd x h
     ·exact rh
    rcases BC (c:=c) (w:=w) v arr.toList es 0 (by simpa using jj.1) (fun j e x he hx=>let ⟨a,b,_⟩:=jj.2.1 j e x (by simpa using he) hx;⟨a,b⟩)with⟨f1,f2,f3⟩|⟨j,val,d,f1,f2,_,f4,f5,e',f6,f7⟩
    ·have gK:(Instr.mapUpdate t (.map (some L.b)) v vy).run P w = .ok () { w with heap:=w.heap.setIfInBounds L.b (.map (arr.push { key:=v,val:=vy,born:=clock }) (clock+1)) }:=by
      have s7:(getObj L.b).run P w = .ok (.map arr clock) w:=by simp[getObj,Sem.run,hm]
      simp only[Instr.mapUpdate,Sem.run_bind,run_underlying hu,Result.andThen_ok,s7,xC,xD,f1]
      simp[setObj,Sem.run,hm]
     obtain⟨m1,m2⟩:=wI h (qH oh) rfl rfl rfl e9 gI (.map (arr.push { key:=v,val:=vy,born:=clock }) (clock+1)) (ob':=.map nj (lK es v y)) (by
      intro w' oW hr
      simp only[gq]
      refine⟨gI,BW y,_,_,oW,?_⟩
      rw[f3]
      refine⟨by simp[jj.1],fun i e x he hx=>?_,by simp[jj.2.2]⟩
      rw[dH]at he
      split at he
      ·rename_i hi
       cases he
       rw[ao (by rw[hi,jj.1];exact Nat.le_refl _),hi,jj.1]at hx
       simp at hx
       subst hx
       exact⟨rfl,hr _ _ h3,by rw[hi,jj.1,jj.2.2]⟩
      ·have hi:i<es.length:=by rw[← jj.1];exact(aK.1 he).1
       rw[ag hi]at hx
       obtain⟨p,q,r⟩:=jj.2.1 i e x he hx
       exact⟨p,hr _ _ q,r⟩)
     exact⟨_,gK,.any,_,c,hk,m1,.any _,m2⟩
    ·have mP:j<arr.size:=by simpa using f4
     have xI:arr[j]? = some e':=by simpa using f6
     have KZ:nj.has e'.key=true:=BM e' (aM f6)
     have Lq:(Instr.keyThatStays e'.key v).run P w = .ok v w:=by
      simp[Instr.keyThatStays,Td Lf rh KZ f7]
     have gK:(Instr.mapUpdate t (.map (some L.b)) v vy).run P w = .ok () { w with heap:=w.heap.setIfInBounds L.b (.map (arr.modify j fun e=>{ e with key:=v,val:=vy }) clock) }:=by
      have s7:(getObj L.b).run P w = .ok (.map arr clock) w:=by simp[getObj,Sem.run,hm]
      simp only[Instr.mapUpdate,Sem.run_bind,run_underlying hu,Result.andThen_ok,s7,xC,xD,f1,aR,xI,aH,aL,Lq]
      simp[setObj,Sem.run,hm]
     obtain⟨m1,m2⟩:=wI h (qH oh) rfl rfl rfl e9 gI (.map (arr.modify j fun e=>{ e with key:=v,val:=vy }) clock) (ob':=.map nj (lK es v y)) (by
      intro w' oW hr
      simp only[gq]
      refine⟨gI,BW y,_,_,oW,?_⟩
      rw[f5]
      refine⟨by simp[jj.1],fun i e x he hx=>?_,by simp[jj.2.2]⟩
      ·rw[bk]at he
       rw[bA]at hx
       split at he
       ·rename_i hi
        subst hi
        rw[if_pos rfl]at hx
        simp only[aj]at he
        obtain⟨e0,h0,rfl⟩:=he
        split at hx
        ·cases hx
         have hj:j<es.length:=by rw[← jj.1];exact mP
         exact⟨rfl,hr _ _ h3,(jj.2.1 j e0 es[j] h0 (by simp[hj])).2.2⟩
        ·cases hx
       ·rename_i hi
        rw[if_neg hi]at hx
        obtain⟨p,q,r⟩:=jj.2.1 i e x he hx
        exact⟨p,hr _ _ q,r⟩)
     exact⟨_,gK,.any,_,c,hk,m1,.any _,m2⟩
  ·exact hk.elim
 ·exact hk.elim
end
end Go.AL
namespace Go.AL
open Go
section
variable{P:Program}{G:GT}{c:Ctx}{H:U}{w:World}{K:iU}{env:gd}{a:Act}
def RC{t:TypeId}{l:nC}(hl:uF P t=some l)(d:Nat){x y:D}{u v:Value}(h1:eW c w u x)(h2:eW c w v y){r:Bool}(h:rK l x y=some r):(Op.equalIn (d+1) t u v).run P w = .ok r w:=by
 unfold rK at h
 split at h
 ·rename_i k m k' n
  cases h1;cases h2
  split at h
  ·rename_i e
   subst e
   cases h
   unfold uF at hl
   split at hl
   ·rename_i k0 hu;exact run_equalIn_int w d t k k0 m n hu
   ·cases hl
   ·cases hl
   ·cases hl
  ·cases h
 ·cases h1;cases h2
  cases h
  unfold uF at hl
  split at hl
  ·cases hl
  ·cases hl
  ·rename_i hu;exact run_equalIn_bool' w d t _ _ hu
  ·cases hl
 ·cases h1;cases h2
  cases h
  rename_i p q
  unfold uF at hl
  split at hl
  ·cases hl
  ·rename_i hu
   have:=run_equalIn_string (P:=P) w d t p q hu
   rw[ByteArray.toList_eq,ByteArray.toList_eq]at this
   exact this
  ·cases hl
  ·cases hl
 ·cases h
def RB{t:TypeId}{l:nC}(hl:uF P t=some l):nG P t=some false:=by
 unfold uF at hl
 unfold nG
 split at hl<;>first|(rename_i hu;simp[hu])|(rename_i k hu;simp[hu])|cases hl
theorem Pr(d:Nat){vs us:List Value}{xs ys:List D}(hx:Cells c w vs xs)(hy:Cells c w us ys):∀ (fs:List Field) (i:Nat) (ls:List nC) (r:Bool),G1 P i fs=some ls→l8 ls (xs.drop i) (ys.drop i)=some r →
  (Op.eqFields (d+1) vs.toArray us.toArray fs).run P w = .ok r w
 | [],i,ls,r,he,hc=>by
  cases he
  unfold l8 at hc
  split at hc
  ·cases hc;rfl
  ·rename_i heq _ _;cases heq
  ·cases hc
 | f::fs,i,ls,r,he,hc=>by
  simp only[G1]at he
  split at he
  ·rename_i l Z6 hl B2
   split at he
   ·rename_i iJ
    obtain⟨zK,B6⟩:=iJ
    cases he
    cases sh:xs.drop i with
    | nil=>rw[sh]at hc;simp[l8]at hc
    | cons x xr=>
     cases uA:ys.drop i with
     | nil=>rw[sh,uA]at hc;simp[l8]at hc
     | cons y yr=>
      rw[sh,uA]at hc
      simp only[l8]at hc
      split at hc
      ·rename_i p q hp hq
       cases hc
       have xT:xs[i]? = some x:=by have:=congrArg (·[0]?) sh;simpa using this
       have Cm:ys[i]? = some y:=by have:=congrArg (·[0]?) uA;simpa using this
       have vX:xs.drop (i+1)=xr:=by rw[← bT,sh];rfl
       have zU:ys.drop (i+1)=yr:=by rw[← bT,uA];rfl
       obtain⟨u,hu,_,Lw⟩:=hx.get xT
       obtain⟨v,hv,_,Cj⟩:=hy.get Cm
       have ih:=Pr d hx hy fs (i+1) Z6 q B2 (by rw[vX,zU];exact hq)
       have hle:=RC (w:=w) hl d Lw Cj hp
       have ha:=yA (RB hl) w
       have B9:(part f.type vs.toArray f.offset).run P w = .ok u w:=by simp[part,ha,zK,hu]
       have vP:(part f.type us.toArray f.offset).run P w = .ok v w:=by simp[part,ha,zK,hv]
       simp only[Op.eqFields,if_pos B6,Sem.run_bind,B9,vP,Result.andThen_ok,hle,Sem.run_ite,ih]
       cases p<;>simp
      ·cases hc
   ·cases he
  ·cases he
theorem Ps{e:TypeId}{l:nC}(hl:uF P e=some l)(d:Nat){vs us:List Value}{xs ys:List D}(hx:Cells c w vs xs)(hy:Cells c w us ys):∀ (n i:Nat) (r:Bool),l8 (List.replicate n l) (xs.drop i) (ys.drop i)=some r →
  (Op.eqItems (d+1) e 1 vs.toArray us.toArray (List.range' i n)).run P w = .ok r w
 | 0,i,r,hc=>by
  unfold l8 at hc
  split at hc
  ·cases hc;rfl
  ·rename_i heq _ _;cases heq
  ·cases hc
 | n+1,i,r,hc=>by
  rw[bw]at hc
  cases sh:xs.drop i with
  | nil=>rw[sh]at hc;simp[l8]at hc
  | cons x xr=>
   cases uA:ys.drop i with
   | nil=>rw[sh,uA]at hc;simp[l8]at hc
   | cons y yr=>
    rw[sh,uA]at hc
    simp only[l8]at hc
    split at hc
    ·rename_i p q hp hq
     cases hc
     have xT:xs[i]? = some x:=by have:=congrArg (·[0]?) sh;simpa using this
     have Cm:ys[i]? = some y:=by have:=congrArg (·[0]?) uA;simpa using this
     have vX:xs.drop (i+1)=xr:=by rw[← bT,sh];rfl
     have zU:ys.drop (i+1)=yr:=by rw[← bT,uA];rfl
     obtain⟨u,hu,_,Lw⟩:=hx.get xT
     obtain⟨v,hv,_,Cj⟩:=hy.get Cm
     have ih:=Ps hl d hx hy n (i+1) q (by rw[vX,zU];exact hq)
     have hle:=RC (w:=w) hl d Lw Cj hp
     have ha:=yA (RB hl) w
     have B9:(part e vs.toArray (i*1)).run P w = .ok u w:=by simp[part,ha,hu]
     have vP:(part e us.toArray (i*1)).run P w = .ok v w:=by simp[part,ha,hv]
     rw[cd]
     simp only[Op.eqItems,Sem.run_bind,B9,vP,Result.andThen_ok,hle,Sem.run_ite,ih]
     cases p<;>simp
    ·cases hc
def Sj(h:fr G c H w){t:TypeId}{ls:List nC}(ht:G2 P t=some ls)(neg:Bool){x y:D}{u v:Value}(h1:eW c w u x)(h2:eW c w v y)(hk:sV true ls neg x y H K)(xo yo:Operand) :
  ∃ r,(do eqGuard (if neg then .neq else .eql) t xo yo u v;binOp (if neg then .neq else .eql) t u v).run P w = .ok r w∧iB G c H w K r w:=by
 unfold G2 at ht
 split at ht
 ·rename_i fs hu
  split at ht
  ·rename_i iJ
   have hf:P.underlying t=some (.struct (P.fieldsOf t)):=by unfold Program.fieldsOf;rw[hu]
   have KR:P.fieldsOf t=fs:=by unfold Program.fieldsOf;rw[hu]
   have hx:∃ cs ds,x = .agg cs∧y = .agg ds:=by
    unfold sV at hk
    split at hk
    ·exact⟨_,_,rfl,rfl⟩
    ·contradiction
    ·exact hk.elim
   obtain⟨cs,ds,rfl,rfl⟩:=hx
   simp only[sV]at hk
   split at hk
   ·rename_i r hr
    cases h1 with
    | agg vs _ ji xt Ki=>
     cases h2 with
     | agg us _ iZ Kk Kl=>
      have KJ:Cells c w vs cs:=⟨ji,xt,Ki⟩
      have KL:Cells c w us ds:=⟨iZ,Kk,Kl⟩
      have gK:=Pr (P:=P) 9998 KJ KL fs.toList 0 ls r ht (by simpa using hr)
      have heq:(Op.equalIn 10000 t (.agg vs.toArray) (.agg us.toArray)).run P w = .ok r w:=by
       rw[run_equalIn_struct w 9999 t vs.toArray us.toArray hf iJ.1,KR]
       exact gK
      cases neg
      ·simp only[br,if_false,Sem.run_bind,run_eqGuard_agg w .eql t xo yo vs.toArray us.toArray iJ.2,Result.andThen_ok,run_eql_struct,heq]
       exact⟨_,rfl,.val h (by simpa using hk)⟩
      ·simp only[if_true,Sem.run_bind,run_eqGuard_agg w .neq t xo yo vs.toArray us.toArray iJ.2,Result.andThen_ok,run_neq_struct,heq]
       exact⟨_,rfl,.val h (by simpa using hk)⟩
   ·exact hk.elim
  ·cases ht
 ·rename_i n e hu
  split at ht
  ·rename_i iJ
   obtain⟨hg,xy,hi⟩:=iJ
   obtain⟨inf,hi⟩:=cJ.1 hi
   obtain⟨l,hl,rfl⟩:=aj.1 ht
   have hx:∃ cs ds,x = .agg cs∧y = .agg ds:=by
    unfold sV at hk
    split at hk
    ·exact⟨_,_,rfl,rfl⟩
    ·contradiction
    ·exact hk.elim
   obtain⟨cs,ds,rfl,rfl⟩:=hx
   simp only[sV]at hk
   split at hk
   ·rename_i r hr
    cases h1 with
    | agg vs _ ji xt Ki=>
     cases h2 with
     | agg us _ iZ Kk Kl=>
      have KJ:Cells c w vs cs:=⟨ji,xt,Ki⟩
      have KL:Cells c w us ds:=⟨iZ,Kk,Kl⟩
      have gK:=Ps (P:=P) (w:=w) hl 9998 KJ KL n 0 r (by simpa using hr)
      have heq:(Op.equalIn 10000 t (.agg vs.toArray) (.agg us.toArray)).run P w = .ok r w:=by
       rw[run_equalIn_array (w:=w) 9999 vs.toArray us.toArray hu hi,xy,cY]
       exact gK
      cases neg
      ·simp only[br,if_false,Sem.run_bind,run_eqGuard_agg w .eql t xo yo vs.toArray us.toArray hg,Result.andThen_ok,run_eql_struct,heq]
       exact⟨_,rfl,.val h (by simpa using hk)⟩
      ·simp only[if_true,Sem.run_bind,run_eqGuard_agg w .neq t xo yo vs.toArray us.toArray hg,Result.andThen_ok,run_neq_struct,heq]
       exact⟨_,rfl,.val h (by simpa using hk)⟩
   ·exact hk.elim
  ·cases ht
 ·cases ht
def Si(h:fr G c H w){t:TypeId}(hu:P.underlying t=some .bool)(neg:Bool){x y:D}{u v:Value}(h1:eW c w u x)(h2:eW c w v y)(hk:sV false [.bool] neg x y H K)(xo yo:Operand) :
  ∃ r,(do eqGuard (if neg then .neq else .eql) t xo yo u v;binOp (if neg then .neq else .eql) t u v).run P w = .ok r w∧iB G c H w K r w:=by
 simp only[sV]at hk
 split at hk
 ·rename_i r hr
  simp only[l8]at hr
  split at hr
  ·rename_i p q hp hq
   cases hq
   cases hr
   unfold rK at hp
   split at hp
   ·contradiction
   ·cases h1;cases h2
    cases hp
    rename_i b b' _
    have heq:=run_equalIn_bool' (P:=P) w 9999 t b b' hu
    have gW:Op.equal t (.bool b) (.bool b')=Op.equalIn 10000 t (.bool b) (.bool b'):=rfl
    cases neg
    ·exact⟨_,by simp[eqGuard,binOp,gW,heq]<;>rfl,.val h (by simpa using hk)⟩
    ·exact⟨_,by simp[eqGuard,binOp,gW,heq]<;>rfl,.val h (by simpa using hk)⟩
   ·contradiction
   ·cases hp
  ·cases hr
 ·exact hk.elim
def IM{f:FuncId}(h:p8 P f=true)(args:Array Value)(w:World):(callFunc f args).run P w = .ok (.enter f args) w:=by
 unfold p8 at h
 split at h
 ·rename_i fn hf
  simp only[ah,bne_iff_ne,ne_eq]at h
  have hb:fn.body.isNone=false:=by cases hb:fn.body<;>simp[hb]at h ⊢
  simp[callFunc,hf,h.1]
  intro e
  rw[e]at hb
  cases hb
 ·cases h
end
end Go.AL
namespace Go.AL
open Go
section
variable{P:Program}{G:GT}{c:Ctx}{H:U}{w:World}{K:iU}{env:gd}{a:Act}
def y5(r:Result Next)(v:Value)(w':World):Prop:=r = .ok (.value v) w'∨(r = .ok .skip w'∧v=undef)
def iX{s:Sem Value}{v:Value}{w':World}(h:s.run P w = .ok v w'):y5 ((do pure (.value (← s)):Sem Next).run P w) v w':=.inl (by simp[h])
def DE{s:Sem Unit}{w':World}(h:s.run P w = .ok () w'):y5 ((do s;pure .skip:Sem Next).run P w) undef w':=.inr ⟨by simp[h],rfl⟩
def aex(h:fr G c H w){s d:TypeId}{sd:TypeDesc}{k:IntKind}(hs:P.underlying s=some sd)(hd:P.underlying d=some (.int k)){x:D}{u:Value}(h1:eW c w u x)
  (hk:Bn k x H K):∃ r,(convert s d u).run P w = .ok r w∧iB G c H w K r w:=by
 unfold Bn at hk
 split at hk
 ·rename_i k' n
  cases h1
  have KW:P.intKind d=k:=by simp[Program.intKind,hd]
  have:=run_convert_int (P:=P) w s d k' n (by rw[hs];rfl) (by rw[KW];exact hd)
  rw[KW]at this
  exact⟨_,this,.val h hk⟩
 ·exact hk.elim
def aeQ(h:fr G c H w){o:Oper}{x:Operand}(ho:o.op = .nilCheck x){d:D}(h1:eW c w (a.eval x) d)
  (hk:CR d H K):∃ v w',y5 ((execOp a.eval o).run P w) v w'∧iB G c H w K v w':=by
 have key:∀ v,a.eval x=v→(match v with | .pointer (some _)=>True | .func (.func _) _ _=>True | .func (.yield _) _ _=>True|_=>False)→y5 ((execOp a.eval o).run P w) v w:=by
  intro v hv hm
  refine .inl ?_
  simp only[execOp,ho,hv]
  split at hm<;>simp_all
 generalize hv:a.eval x=v at h1
 unfold CR at hk
 split at hk
 ·cases h1 with
  | ptr _ _ _ L e9 lY=>exact⟨_,w,key _ hv trivial,.plain h hk (.ptr _ _ _ L e9 lY)⟩
 ·obtain⟨b,p,e,hF,hc⟩:=vm h1
  subst e
  exact⟨_,w,key _ hv trivial,.plain h hk h1⟩
 ·cases h1 with
  | fn f fs cs df dc e1 e2 e3 e4=>exact⟨_,w,key _ hv trivial,.plain h hk (.fn _ fs cs _ _ e1 e2 e3 e4)⟩
 ·cases h1 with
  | iA _ L e9 lY=>exact⟨_,w,key _ hv trivial,.plain h hk (.iA _ L e9 lY)⟩
 ·exact hk.elim
def MF{l:Array Operand}{xs:List D}(h:iS c w (l.toList.map a.eval) xs):∃ vs:List Value,l.map a.eval=vs.toArray∧iS c w vs xs:=
 ⟨_,by cases l;simp,h⟩
def tz{o:Oper}{cl:Call}(ho:o.op = .call cl){b:Builtin}(hb:cl.callee = .builtin b):(execOp a.eval o).run P w=(builtin b cl.argTypes o.type (cl.args.map fun | .const _=>true|_=>false) (cl.args.map a.eval)).run P w:=by
 simp only[execOp,ho,resolve,hb,Sem.run_bind,Sem.run_pure,Result.andThen_ok,invoke]
 rfl
def SB(h:fr G c H w)(he:kb c w env a){al:Al}(gu:l5 H al){o:Oper}{io:ij}(hc:ml P G o=some io)(hk:A6 env H al K io) :
  ∃ v w',y5 ((execOp a.eval o).run P w) v w'∧iB G c H w K v w':=by
 unfold ml at hc
 cases ho:o.op with
 | move x=>
  simp only[ho,ax,ae,aF,ak]at hc
  obtain⟨X,hX,rfl⟩:=hc
  exact⟨_,w,.inl (by simp only[execOp,ho];rfl),.plain h hk (ia h he hX)⟩
 | assign x=>
  simp only[ho,ax,ae,aF,ak]at hc
  obtain⟨X,hX,rfl⟩:=hc
  exact⟨_,w,.inl (by simp only[execOp,ho];rfl),.plain h hk (ia h he hX)⟩
 | pick x y z=>
  simp only[ho,ax,ae,aF,ak]at hc
  obtain⟨X,hX,Y,hY,Z,hZ,rfl⟩:=hc
  obtain⟨b,hb,hp⟩:=aeR h (ia h he hX) (ia h he hY) (ia h he hZ) hk
  exact⟨_,w,.inl (by simp[execOp,ho,hb];rfl),hp⟩
 | box e x=>
  simp only[ho,ax,ae,aF,ak]at hc
  obtain⟨X,hX,rfl⟩:=hc
  obtain⟨r,w',hr,hp⟩:=aer (P:=P) h gu e (ia h he hX) hk
  exact⟨r,w',by simp only[execOp,ho];exact iX hr,hp⟩
 | alloc e=>
  simp only[ho,ax,ae,aF,ak]at hc
  obtain⟨z,hz,rfl⟩:=hc
  obtain⟨r,w',hr,hp⟩:=aem (P:=P) h gu hz hk
  exact⟨r,w',by simp only[execOp,ho];exact iX hr,hp⟩
 | build t ps=>
  simp only[ho,ax,ae]at hc
  obtain⟨z,hz,l,hl,hc⟩:=hc
  split at hc
  ·rename_i fs hu
   split at hc
   ·rename_i hf
    simp only[ae,aF,ak]at hc
    obtain⟨qs,hq,rfl⟩:=hc
    obtain⟨r,hr,hp⟩:=aes h he hz hl hu hf hq hk
    exact⟨r,w,by simp only[execOp,ho];exact iX hr,hp⟩
   ·cases hc
  ·rename_i n e hu
   simp only[ae,aF,ak]at hc
   obtain⟨sz,hs,rfl⟩:=hc
   obtain⟨r,hr,hp⟩:=aet h he hz hl hu hs hk
   exact⟨r,w,by simp only[execOp,ho];exact iX hr,hp⟩
  ·cases hc
 | buildSlice t n ps=>
  simp only[ho,ax,ae]at hc
  obtain⟨td,hu,hc⟩:=hc
  split at hc
  ·rename_i e
   simp only[ae]at hc
   obtain⟨z,hz,sz,hs,l,hl,hc⟩:=hc
   split at hc
   ·rename_i iJ
    cases hc
    obtain⟨r,w',hr,hp⟩:=aeu (P:=P) h gu he hu hz hs hl iJ.1 iJ.2.1 iJ.2.2 hk
    exact⟨r,w',by simp only[execOp,ho];exact iX hr,hp⟩
   ·cases hc
  ·cases hc
 | load t x=>
  simp only[ho,ax,ae]at hc
  obtain⟨X,hX,n,hn,b,hb,hc⟩:=hc
  cases b
  ·cases hc
   obtain⟨v,hv,hp⟩:=aeI h hb (ia h he hX) hk
   exact⟨v,w,by simp only[execOp,ho];exact iX hv,hp⟩
  ·cases hc
   obtain⟨v,hv,hp⟩:=aeJ h hb hn (ia h he hX) hk
   exact⟨v,w,by simp only[execOp,ho];exact iX hv,hp⟩
 | store t x y=>
  simp only[ho,ax,ae]at hc
  obtain⟨X,hX,Y,hY,n,hn,b,hb,hc⟩:=hc
  cases b
  ·simp only[br,if_false]at hc
   split at hc
   ·rename_i e
    subst e
    cases hc
    obtain⟨w',hv,hp⟩:=aeX h hn (ia h he hX) (ia h he hY) hk
    exact⟨_,w',by simp only[execOp,ho];exact DE hv,hp⟩
   ·cases hc
  ·cases hc
   obtain⟨w',hv,hp⟩:=aeY h hn (ia h he hX) (ia h he hY) hk
   exact⟨_,w',by simp only[execOp,ho];exact DE hv,hp⟩
 | nilCheck x=>
  simp only[ho,ax,ae,aF,ak]at hc
  obtain⟨X,hX,rfl⟩:=hc
  exact aeQ h ho (ia h he hX) hk
 | binOp op t x y yt=>
  simp only[ho,ax,ae]at hc
  obtain⟨X,hX,Y,hY,hc⟩:=hc
  have r1:=ia h he hX
  have r2:=ia h he hY
  split at hc
  ·split at hc
   ·rename_i hb
    cases hc
    obtain⟨v,hv,hp⟩:=Si (P:=P) h (by unfold Gp at hb;split at hb<;>first|assumption|cases hb) false r1 r2 hk x y
    exact⟨v,w,by simp only[execOp,ho];exact iX hv,hp⟩
   ·split at hc
    ·cases hc
     obtain⟨v,hv,hp⟩:=Mn (P:=P) h r1 r2 hk t x y
     exact⟨v,w,by simp only[execOp,ho];exact iX hv,hp⟩
    ·simp only[ae,aF,ak]at hc
     obtain⟨ls,B2,rfl⟩:=hc
     obtain⟨v,hv,hp⟩:=Sj (P:=P) h B2 false r1 r2 hk x y
     exact⟨v,w,by simp only[execOp,ho];exact iX hv,hp⟩
  ·split at hc
   ·rename_i hb
    cases hc
    obtain⟨v,hv,hp⟩:=Si (P:=P) h (by unfold Gp at hb;split at hb<;>first|assumption|cases hb) true r1 r2 hk x y
    exact⟨v,w,by simp only[execOp,ho];exact iX hv,hp⟩
   ·split at hc
    ·cases hc
     obtain⟨v,hv,hp⟩:=Mn (P:=P) h r1 r2 hk t x y
     exact⟨v,w,by simp only[execOp,ho];exact iX hv,hp⟩
    ·simp only[ae,aF,ak]at hc
     obtain⟨ls,B2,rfl⟩:=hc
     obtain⟨v,hv,hp⟩:=Sj (P:=P) h B2 true r1 r2 hk x y
     exact⟨v,w,by simp only[execOp,ho];exact iX hv,hp⟩
  ·cases hc
   obtain⟨v,hv,hp⟩:=Mn (P:=P) h r1 r2 hk t x y
   exact⟨v,w,by simp only[execOp,ho];exact iX hv,hp⟩
 | unOp op t x=>
  simp only[ho,ax,ae,aF,ak]at hc
  obtain⟨X,hX,rfl⟩:=hc
  obtain⟨v,hv,hp⟩:=aeZ (P:=P) h (ia h he hX) hk
  exact⟨v,w,by simp only[execOp,ho];exact iX hv,hp⟩
 | convert s d x=>
  simp only[ho,ax,ae]at hc
  obtain⟨X,hX,sd,hs,hc⟩:=hc
  split at hc
  ·rename_i k hd
   cases hc
   obtain⟨v,hv,hp⟩:=aex (P:=P) h hs hd (ia h he hX) hk
   exact⟨v,w,by simp only[execOp,ho];exact iX hv,hp⟩
  ·rename_i hd
   simp only[ae]at hc
   obtain⟨sd2,mH,hc⟩:=hc
   split at hc
   ·rename_i e
    simp only[ae]at hc
    obtain⟨ed,KN,hc⟩:=hc
    split at hc
    ·cases hc
     obtain⟨v,hv,hp⟩:=aeq (P:=P) h mH KN hd (ia h he hX) hk
     exact⟨v,w,by simp only[execOp,ho];exact iX hv,hp⟩
    ·cases hc
   ·cases hc
  ·cases hc
 | makeFunc f first cap=>
  simp only[ho,ax,ae,aF,ak]at hc
  obtain⟨X,hX,Y,hY,rfl⟩:=hc
  exact⟨_,w,.inl (by simp[execOp,ho,Instr.makeFunc]),aeM h he hX hY hk⟩
 | makeMap t r=>
  cases r with
  | some r=>simp[ho]at hc
  | none=>
   simp only[ho,ax,ae]at hc
   obtain⟨td,hu,hc⟩:=hc
   split at hc
   ·simp only[ae,aF,ak]at hc
    obtain⟨kk,ko,rfl⟩:=hc
    obtain⟨v,w',hv,hp⟩:=aeN (P:=P) h gu t kk hk
    exact⟨v,w',by simp only[execOp,ho];exact iX hv,hp⟩
   ·cases hc
 | lookup t x i ok=>
  simp only[ho,ax,ae]at hc
  obtain⟨td,hu,hc⟩:=hc
  split at hc
  ·simp only[ae,aF,ak]at hc
   obtain⟨z,hz,kk,ko,X,hX,Y,hY,rfl⟩:=hc
   obtain⟨v,hv,hp⟩:=aeK (P:=P) h hu ko hz ok (ia h he hX) (ia h he hY) hk
   exact⟨v,w,by simp only[execOp,ho];exact iX hv,hp⟩
  ·cases hc
 | mapUpdate t m k x=>
  simp only[ho,ax,ae]at hc
  obtain⟨td,hu,hc⟩:=hc
  split at hc
  ·simp only[ae,aF,ak]at hc
   obtain⟨kk,ko,X,hX,Y,hY,Z,hZ,rfl⟩:=hc
   obtain⟨w',hv,hp⟩:=Sk (P:=P) h hu ko (ia h he hX) (ia h he hY) (ia h he hZ) hk
   exact⟨_,w',by simp only[execOp,ho];exact DE hv,hp⟩
  ·cases hc
 | insert t m k x=>
  simp only[ho,ax,ae]at hc
  obtain⟨td,hu,hc⟩:=hc
  split at hc
  ·simp only[ae,aF,ak]at hc
   obtain⟨kk,ko,X,hX,Y,hY,Z,hZ,rfl⟩:=hc
   obtain⟨w',hv,hp⟩:=Sk (P:=P) h hu ko (ia h he hX) (ia h he hY) (ia h he hZ) hk
   exact⟨_,w',by simp only[execOp,ho];exact DE hv,hp⟩
  ·cases hc
 | makeSlice t l m=>
  simp only[ho,ax,ae]at hc
  obtain⟨td,hu,hc⟩:=hc
  split at hc
  ·simp only[ae]at hc
   obtain⟨z,hz,i,hi,hc⟩:=hc
   split at hc
   ·rename_i iJ
    simp only[ae,aF,ak]at hc
    obtain⟨X,hX,Y,hY,rfl⟩:=hc
    obtain⟨v,w',hv,hp⟩:=aeO (P:=P) h gu hu hi hz iJ.1 iJ.2 (ia h he hX) (ia h he hY) hk
    exact⟨_,w',by simp only[execOp,ho];exact iX hv,hp⟩
   ·cases hc
  ·cases hc
 | slice t x lo hi mx=>
  cases mx with
  | some r=>
   cases hi with
   | none=>simp[ho]at hc
   | some hi=>
    simp only[ho,ax,ae]at hc
    obtain⟨X,hX,L,hL,M,hM,N,hN,td,hu,hc⟩:=hc
    split at hc
    ·simp only[ae,aF,ak]at hc
     obtain⟨n,hn,rfl⟩:=hc
     obtain⟨v,hv,hp⟩:=aeT (P:=P) h he hu hn hL hM hN (ia h he hX) hk
     exact⟨v,w,by simp only[execOp,ho];exact iX hv,hp⟩
    ·cases hc
  | none=>
   simp only[ho,ax,ae]at hc
   obtain⟨X,hX,L,hL,M,hM,hc⟩:=hc
   have r1:=ia h he hX
   split at hc
   ·rename_i e hu
    simp only[ae,aF,ak]at hc
    obtain⟨n,hn,rfl⟩:=hc
    obtain⟨v,hv,hp⟩:=aeV (P:=P) h he hu hn hL hM r1 hk
    exact⟨v,w,by simp only[execOp,ho];exact iX hv,hp⟩
   ·rename_i hu
    cases hc
    have hs:∃ s,ev env X = .val (.string s):=by
     simp only[A6]at hk
     unfold Ao at hk
     split at hk
     ·rename_i s e;exact⟨s,e⟩
     ·exact hk.elim
    obtain⟨s,hs⟩:=hs
    simp only[A6]at hk
    rw[hs]at hk r1
    have Q8:a.eval x = .string s:=by
     generalize a.eval x=u at r1
     cases r1;rfl
    obtain⟨v,hv,hp⟩:=aeW (P:=P) h he hu hL hM hk
    exact⟨v,w,by simp only[execOp,ho,Q8];exact iX hv,hp⟩
   ·rename_i m e hu
    simp only[ae,aF,ak]at hc
    obtain⟨n,hn,rfl⟩:=hc
    obtain⟨v,hv,hp⟩:=aeU (P:=P) h he hu hn hL hM r1 hk
    exact⟨v,w,by simp only[execOp,ho];exact iX hv,hp⟩
   ·cases hc
 | fieldAddr t x f=>
  simp only[ho,ax,ae]at hc
  obtain⟨X,hX,td,hu,hc⟩:=hc
  split at hc
  ·simp only[ae]at hc
   obtain⟨fd,hf,n,hn,hc⟩:=hc
   split at hc
   ·rename_i jQ
    cases hc
    obtain⟨v,hv,hp⟩:=aeD (P:=P) h hu hf hn jQ (ia h he hX) hk
    exact⟨v,w,by simp only[execOp,ho];exact iX hv,hp⟩
   ·cases hc
  ·cases hc
 | field t x f=>
  simp only[ho,ax,ae]at hc
  obtain⟨X,hX,td,hu,hc⟩:=hc
  split at hc
  ·simp only[ae,aF,ak]at hc
   obtain⟨fd,hf,n,hn,b,hb,rfl⟩:=hc
   obtain⟨v,hv,hp⟩:=aeC (P:=P) h hu hf hb hn (ia h he hX) hk
   exact⟨v,w,by simp only[execOp,ho];exact iX hv,hp⟩
  ·cases hc
 | indexAddr t x i=>
  simp only[ho,ax,ae]at hc
  obtain⟨X,hX,Y,hY,hc⟩:=hc
  split at hc
  ·rename_i e hu
   simp only[ae]at hc
   obtain⟨n,hn,hc⟩:=hc
   split at hc
   ·rename_i jQ
    cases hc
    obtain⟨v,hv,hp⟩:=aeF (P:=P) h hu hn jQ (ia h he hX) (ia h he hY) hk
    exact⟨v,w,by simp only[execOp,ho];exact iX hv,hp⟩
   ·cases hc
  ·rename_i m e hu
   simp only[ae,aF,ak]at hc
   obtain⟨n,hn,rfl⟩:=hc
   obtain⟨v,hv,hp⟩:=aeG (P:=P) h hu hn (ia h he hX) (ia h he hY) hk
   exact⟨v,w,by simp only[execOp,ho];exact iX hv,hp⟩
  ·cases hc
 | index t x i=>
  simp only[ho,ax,ae]at hc
  obtain⟨X,hX,Y,hY,hc⟩:=hc
  split at hc
  ·rename_i m e hu
   simp only[ae,aF,ak]at hc
   obtain⟨n,hn,b,hb,rfl⟩:=hc
   obtain⟨v,hv,hp⟩:=aeE (P:=P) h hu hn hb (ia h he hX) (ia h he hY) hk
   exact⟨v,w,by simp only[execOp,ho];exact iX hv,hp⟩
  ·rename_i hu
   cases hc
   obtain⟨v,hv,hp⟩:=aeH (P:=P) h hu (ia h he hX) (ia h he hY) hk
   exact⟨v,w,by simp only[execOp,ho];exact iX hv,hp⟩
  ·cases hc
 | extract x i=>
  simp only[ho,ax,ae,aF,ak]at hc
  obtain⟨X,hX,rfl⟩:=hc
  obtain⟨v,hv,hp⟩:=aeB (P:=P) h (ia h he hX) hk
  exact⟨v,w,by simp only[execOp,ho];exact iX hv,hp⟩
 | call cl=>
  simp only[ho,ax,ae]at hc
  obtain⟨args,qw,hc⟩:=hc
  have iy:=wZ h he cl.args.toList qw
  split at hc
  ·split at hc
   ·cases hc;split at hk<;>exact(show False from hk).elim
   ·cases hc
  ·simp only[ae,aF,ak]at hc
   obtain⟨X,hX,rfl⟩:=hc
   exact(show False from hk).elim
  ·rename_i jn
   split at hc
   ·rename_i t u x y kf
    have qx:cl.argTypes = #[t,u]:=by rw[← bE (xs:=cl.argTypes),kf]
    obtain⟨vs,jF,iy⟩:=MF iy
    simp only[List.map_cons,List.map_nil]at iy
    cases iy with|cons r1 iy=>cases iy with|cons r2 iy=>cases iy with|nil=>
    simp only[ae]at hc
    obtain⟨td,hu,hc⟩:=hc
    split at hc
    ·simp only[ae]at hc
     obtain⟨i,hi,z,hz,ud,HR,hc⟩:=hc
     split at hc
     ·split at hc
      ·rename_i iJ
       cases hc
       obtain⟨v,w',hv,hp⟩:=aen (P:=P) (ty:=o.type) h gu hu ⟨_,HR⟩ hi hz iJ.1 iJ.2 r1 r2 hk
       exact⟨v,w',by rw[tz ho jn,jF,qx];exact iX hv,hp⟩
      ·cases hc
     ·cases hc
    ·cases hc
   ·cases hc
  ·rename_i jn
   split at hc
   ·rename_i t u x y kf
    have qx:cl.argTypes = #[t,u]:=by rw[← bE (xs:=cl.argTypes),kf]
    obtain⟨vs,jF,iy⟩:=MF iy
    simp only[List.map_cons,List.map_nil]at iy
    cases iy with|cons r1 iy=>cases iy with|cons r2 iy=>cases iy with|nil=>
    simp only[ae]at hc
    obtain⟨td,hu,hc⟩:=hc
    split at hc
    ·simp only[ae]at hc
     obtain⟨ud,HR,hc⟩:=hc
     split at hc
     ·simp only[ae]at hc
      obtain⟨n,hn,hc⟩:=hc
      split at hc
      ·rename_i jQ
       cases hc
       obtain⟨v,w',hv,hp⟩:=aey (P:=P) (u:=u) (ty:=o.type) h hu hn jQ r1 r2 hk
       exact⟨v,w',by rw[tz ho jn,jF,qx];exact iX hv,hp⟩
      ·cases hc
     ·cases hc
    ·cases hc
   ·cases hc
  ·rename_i jn
   split at hc
   ·rename_i t x kf
    have qx:cl.argTypes = #[t]:=by rw[← bE (xs:=cl.argTypes),kf]
    obtain⟨vs,jF,iy⟩:=MF iy
    simp only[List.map_cons,List.map_nil]at iy
    cases iy with|cons r1 iy=>cases iy with|nil=>
    split at hc
    ·rename_i e hu
     cases hc
     obtain⟨v,hv,hp⟩:=Mo (P:=P) (ty:=o.type) (k:=.slice) h hu ⟨e,rfl⟩ r1 hk
     exact⟨v,w,by rw[tz ho jn,jF,qx];exact iX hv,hp⟩
    ·rename_i hu
     cases hc
     obtain⟨v,hv,hp⟩:=Mo (P:=P) (ty:=o.type) (k:=.string) h hu rfl r1 hk
     exact⟨v,w,by rw[tz ho jn,jF,qx];exact iX hv,hp⟩
    ·rename_i k e hu
     cases hc
     obtain⟨v,hv,hp⟩:=Mo (P:=P) (ty:=o.type) (k:=.map) h hu ⟨k,e,rfl⟩ r1 hk
     exact⟨v,w,by rw[tz ho jn,jF,qx];exact iX hv,hp⟩
    ·cases hc
   ·cases hc
  ·rename_i jn
   cases hc
   obtain⟨v,hv,hp⟩:=Sl (P:=P) h he qw true cl.argTypes o.type hk
   exact⟨v,w,by rw[tz ho jn];exact iX (by simpa using hv),hp⟩
  ·rename_i jn
   cases hc
   obtain⟨v,hv,hp⟩:=Sl (P:=P) h he qw false cl.argTypes o.type hk
   exact⟨v,w,by rw[tz ho jn];exact iX (by simpa using hv),hp⟩
  ·cases hc
 | _=>simp[ho]at hc
end
end Go.AL
namespace Go.AL
open Go
def HV:Int→Bool
 | .ofNat m=>Nat.ble m 9223372036854775807
 | .negSucc m=>Nat.ble m 9223372036854775807
def YZ(n:Int):HV n=true↔mI n:=by
 unfold mI
 cases n with
 | ofNat m=>
  have e:HV (.ofNat m)=Nat.ble m 9223372036854775807:=rfl
  rw[e,Nat.ble_eq]
  have:(Int.ofNat m)=(m:Int):=rfl
  omega
 | negSucc m=>
  have e:HV (.negSucc m)=Nat.ble m 9223372036854775807:=rfl
  rw[e,Nat.ble_eq]
  have:Int.negSucc m = -((m:Int)+1):=Int.negSucc_eq m
  omega
instance(n:Int):Decidable (mI n):=decidable_of_iff (HV n=true) (YZ n)
def H7(k:Nat):Int→Bool
 | .ofNat m=>Nat.ble m k
 | .negSucc _=>true
def oZ(n:Int)(k:Nat):Prop:=n≤(k:Int)
def ZK(n:Int)(k:Nat):H7 k n=true↔oZ n k:=by
 unfold oZ
 cases n with
 | ofNat m=>
  have e:H7 k (.ofNat m)=Nat.ble m k:=rfl
  rw[e,Nat.ble_eq]
  have:(Int.ofNat m)=(m:Int):=rfl
  omega
 | negSucc m=>
  have e:H7 k (.negSucc m)=true:=rfl
  rw[e]
  have:Int.negSucc m = -((m:Int)+1):=Int.negSucc_eq m
  simp only[true_iff]
  omega
instance(n:Int)(k:Nat):Decidable (oZ n k):=decidable_of_iff (H7 k n=true) (ZK n k)
inductive Dl where
 | no
 | cells (v o:Nat) (xs:List D)
 | obj (v:Nat) (ob:Ob)
 | new (ob:Ob)
 deriving Inhabited
def Dl.app(H:U)(al:Al):Dl→U
 | .no=>H
 | .cells v o xs=>match H[v]? with
  | some (.row t g cs)=>H.set v (.row t g (cs.take o++xs++cs.drop (o+xs.length)))
  | _=>H
 | .obj v ob=>H.set v ob
 | .new ob=>al.2 ob
abbrev R:=Option (D×Dl)
def ret(d:D):R:=some (d,.no)
def jl(op:BinOp)(k:IntKind)(a b:Int):Option D:=
 match op with
 | .add=>if k = .i64 then(if mI (a+b)then some (.val (.int .i64 (a+b)))else none)else some (.val (.int k (k.wrap (a+b))))
 | .sub=>if k = .i64 then(if mI (a-b)then some (.val (.int .i64 (a-b)))else none)else some (.val (.int k (k.wrap (a-b))))
 | .mul=>if k = .i64 then(if mI (a*b)then some (.val (.int .i64 (a*b)))else none)else some (.val (.int k (k.wrap (a*b))))
 | .quo=>if b=0 then none else some (.val (.int k (k.wrap (a.tdiv b))))
 | .rem=>if b=0 then none else some (.val (.int k (a.tmod b)))
 | .and | .or | .xor | .andNot=>some (.val (.int k (bits op k a b)))
 | .eql=>some (.val (.bool (a == b)))
 | .neq=>some (.val (.bool (a != b)))
 | .lss=>some (.val (.bool (decide (a<b))))
 | .leq=>some (.val (.bool (decide (a≤b))))
 | .gtr=>some (.val (.bool (decide (a>b))))
 | .geq=>some (.val (.bool (decide (a≥b))))
 | _=>none
def MW(op:BinOp)(k:IntKind)(a b:Int):Option D:=
 match op with
 | .shl=>if 0≤b then some (.val (.int k (k.wrap (a*2 ^ (min b.toNat k.bits)))))else none
 | .shr=>if 0≤b then some (.val (.int k (a.fdiv (2 ^ (min b.toNat k.bits)))))else none
 | _=>none
def Av(op:BinOp)(a b:ByteArray):Option D:=
 match op with
 | .eql=>some (.val (.bool (a.data.toList == b.data.toList)))
 | .neq=>some (.val (.bool (!(a.data.toList == b.data.toList))))
 | .add=>if oZ ((a.size+b.size:Nat):Int) 9223372036854775807 then some (.val (.string (a++b)))else none
 | _=>none
def kd(op:BinOp)(x y:D):Option D:=
 match x,y with
 | .val (.int k a),.val (.int k' b)=>if oi op then MW op k a b else if k=k' then jl op k a b else none
 | .val (.string a),.val (.string b)=>Av op a b
 | _,_=>none
def Ax(op:UnOp)(x:D):Option D:=
 match op,x with
 | .not,.val (.bool b)=>some (.val (.bool (!b)))
 | .neg,.val (.int .i64 n)=>if mI (-n)then some (.val (.int .i64 (-n)))else none
 | .xor,.val (.int k n)=>some (.val (.int k (bits .xor k (if k.signed then -1 else k.max) n)))
 | _,_=>none
def xe(ja:Bool)(ls:List nC)(neg:Bool)(x y:D):Option D:=
 match ja,x,y with
 | true,.agg a,.agg b=>match l8 ls a b with
  | some r=>some (.val (.bool (if neg then !r else r)))
  | none=>none
 | false,x,y=>match l8 ls [x] [y]with
  | some r=>some (.val (.bool (if neg then !r else r)))
  | none=>none
 | _,_,_=>none
def yl(c a b:D):Option D:=
 match c with
 | .val (.bool x)=>some (if x then a else b)
 | _=>none
def tl(x:D)(H:U):Option D:=
 match x with
 | .ptr v g o=>match rowAt H v g with
  | some (_,cs)=>cs[o]?
  | none=>none
 | .fj cs=>cs[0]?
 | _=>none
def tm(n:Nat)(x:D)(H:U):Option D:=
 match x with
 | .ptr v g o=>match rowAt H v g with
  | some (_,cs)=>if o+n≤cs.length then some (.agg ((cs.drop o).take n))else none
  | none=>none
 | .fj cs=>if n≤cs.length then some (.agg (cs.take n))else none
 | _=>none
def yF(a x:D)(H:U):R:=
 match a with
 | .ptr v g o=>match rowAt H v g with
  | some (_,cs)=>if o<cs.length∧one x=true then some (.any,.cells v o [x])else none
  | none=>none
 | _=>none
def yG(n:Nat)(a x:D)(H:U):R:=
 match a,cellsOf x with
 | .ptr v g o,some xs=>match rowAt H v g with
  | some (_,cs)=>if xs.length=n∧o+n≤cs.length then some (.any,.cells v o xs)else none
  | none=>none
 | _,_=>none
def qq(t:TypeId)(x:D)(n:Nat):R:=
 match cellsOf x with
 | some cs=>some (.ptr n 0 0,.new (.row t 0 cs))
 | none=>none
def y9(env:gd)(z:List D)(ps:List (Nat×Nat×X)):Option D:=
 match partsOf env ps with
 | some l=>match lay l z with
  | some cs=>some (.agg cs)
  | none=>none
 | none=>none
def vh(env:gd)(t sz:Nat)(z:List D)(m:Nat)(ps:List (Nat×X))(n:Nat):R:=
 match partsOf env (ps.map fun p=>(p.1*sz,sz,p.2))with
 | some l=>match lay l (List.replicate m z).flatten with
  | some cs=>some (.eX n 0 sz 0 m,.new (.row t 0 cs))
  | none=>none
 | none=>none
def BB(off:Nat)(x:D):Option D:=
 match x with
 | .ptr v g o=>some (.ptr v g (o+off))
 | .fj cs=>some (.fj (cs.drop off))
 | _=>none
def xk(off n:Nat)(ja:Bool)(x:D):Option D:=
 match x with
 | .agg cs=>if ja then(if off+n≤cs.length then some (.agg ((cs.drop off).take n))else none)else cs[off]?
 | _=>none
def mz(sz:Nat)(x i:D):Option D:=
 match x,i with
 | .sl fY es,.val (.int _ n)=>if fY=sz∧0≤n∧n<es.length then some (.fj (es.getD n.toNat []))else none
 | .lA vs,.val (.int _ n)=>if 1=sz∧0≤n∧n<vs.length then some (.fj [.val (vs.getD n.toNat undef)])else none
 | .eX v g fY off len,.val (.int _ n)=>if fY=sz∧0≤n∧n<len then some (.ptr v g ((off+n.toNat)*sz))else none
 | _,_=>none
def Cr(sz n:Nat)(x i:D):Option D:=
 match x,i with
 | .ptr v g o,.val (.int _ k)=>if 0≤k∧k<n then some (.ptr v g (o+k.toNat*sz))else none
 | .fj cs,.val (.int _ k)=>if 0≤k∧k<n then some (.fj (cs.drop (k.toNat*sz)))else none
 | _,_=>none
def HW(sz n:Nat)(ja:Bool)(x i:D):Option D:=
 match x,i with
 | .agg cs,.val (.int _ k)=>if 0≤k∧k<n then xk (k.toNat*sz) sz ja (.agg cs)else none
 | _,_=>none
def LF(x i:D):Option D:=
 match x,i with
 | .val (.string s),.val (.int _ k)=>if 0≤k∧k<s.size then some (.val (.int .u8 ((s.data.toList.getD k.toNat 0).toNat)))else none
 | _,_=>none
def xZ(nj:KK)(z:D)(ok:Bool)(m k:D)(H:U):Option D:=
 match m,keyOf k with
 | .gF v,some kv=>match lT H v with
  | some (kk,es)=>if kk=nj∧kk.has kv=true then(match o4 es kv with
    | some d=>some (if ok then .tup [d,.val (.bool true)]else d)
    | none=>some (if ok then .tup [z,.val (.bool false)]else z))else none
  | none=>none
 | _,_=>none
def wh(nj:KK)(m k x:D)(H:U):R:=
 match m,keyOf k with
 | .gF v,some kv=>match lT H v with
  | some (kk,es)=>if kk=nj∧kk.has kv=true then some (.any,.obj v (.map kk (lK es kv x)))else none
  | none=>none
 | _,_=>none
def G6(x:D)(i:Nat):Option D:=
 match x with
 | .tup ds=>ds[i]?
 | _=>none
def Aa(t sz bytes:Nat)(z:List D)(l c:D)(v:Nat):R:=
 match l,c with
 | .val (.int _ n),.val (.int _ m)=>if 0≤n∧n≤m∧oZ m 9223372036854775807∧oZ ((bytes:Int)*m) 281474976710656 then some (.eX v 0 sz 0 n.toNat,.new (.row t 0 (List.replicate m.toNat z).flatten))else none
 | _,_=>none
def qS(env:gd)(sz:Nat)(x:D)(lo hi:Option X):Option D:=
 match x with
 | .sl fY es=>match gy env lo 0,gy env hi es.length with
  | some l,some h=>if fY=sz∧0≤l∧l≤h∧h≤es.length then some (.sl sz ((es.drop l.toNat).take (h.toNat-l.toNat)))else none
  | _,_=>none
 | .eX v g fY off len=>match gy env lo 0,gy env hi len with
  | some l,some h=>if fY=sz∧0≤l∧l≤h∧h≤len then some (.eX v g sz (off+l.toNat) (h.toNat-l.toNat))else none
  | _,_=>none
 | .eU=>match gy env lo 0,gy env hi 0 with
  | some l,some h=>if l=0∧h=0 then some .eU else none
  | _,_=>none
 | _=>none
def yC(env:gd)(sz:Nat)(x:D)(lo:Option X)(hi mx:X):Option D:=
 match gy env lo 0,gy env (some hi) 0,gy env (some mx) 0 with
 | some l,some h,some m=>match x with
  | .sl fY es=>if fY=sz∧0≤l∧l≤h∧h=m∧m≤es.length then some (clip sz ((es.drop l.toNat).take (h.toNat-l.toNat)))else none
  | .eX v g fY off len=>if fY=sz∧0≤l∧l≤h∧h≤m∧m≤len then some (.eX v g sz (off+l.toNat) (h.toNat-l.toNat))else none
  | .eU=>if l=0∧h=0∧m=0 then some .eU else none
  | _=>none
 | _,_,_=>none
def wE(env:gd)(sz n:Nat)(x:D)(lo hi:Option X)(H:U):Option D:=
 match x,gy env lo 0,gy env hi n with
 | .fj cs,some l,some h=>if sz=1∧n≤cs.length∧n≤16777216∧0≤l∧l≤h∧h≤n then some (.sl 1 (((cs.drop l.toNat).take (h.toNat-l.toNat)).map fun d=>[d]))else none
 | .ptr v g o,some l,some h=>match rowAt H v g with
  | some (_,cs)=>if o % sz=0∧o+n*sz≤cs.length∧n≤16777216∧0≤l∧l≤h∧h≤n then some (.eX v g sz (o / sz+l.toNat) (h.toNat-l.toNat))else none
  | none=>none
 | _,_,_=>none
def IU(env:gd)(x:D)(lo hi:Option X):Option D:=
 match x with
 | .val (.string s)=>match gy env lo 0,gy env hi s.size with
  | some l,some h=>if 0≤l∧l≤h∧h≤s.size then some (.val (.string (s.extract l.toNat h.toNat)))else none
  | _,_=>none
 | _=>none
def pX(t sz bytes:Nat)(x y:D)(H:U)(vn:Nat):R:=
 match j' sz H y with
 | some (ys,n)=>match x with
  | .eX v g fY off len=>match rowAt H v g with
   | some (t',cs)=>if fY=sz∧t'=t∧(off+len)*sz≤cs.length∧(len+n)*bytes≤140737488355328∧len+n≤9223372036854775807 then
     some (.eX v (g+1) sz 0 (len+n),.obj v (.row t (g+1) ((cs.drop (off*sz)).take (len*sz)++ys)))else none
   | none=>none
  | .lA vs=>if n≠0∧sz=1∧(vs.length+n)*bytes≤140737488355328∧vs.length+n≤9223372036854775807 then some (.eX vn 0 sz 0 (vs.length+n),.new (.row t 0 (vs.map .val++ys)))else none
  | .eU=>if n=0 then some (.eU,.no)else if n*bytes≤140737488355328∧n≤9223372036854775807 then some (.eX vn 0 sz 0 n,.new (.row t 0 ys))else none
  | _=>none
 | none=>none
def vu(sz:Nat)(x y:D)(H:U):R:=
 match x,j' sz H y with
 | .eX v g fY off len,some (ys,n)=>match rowAt H v g with
  | some (t,cs)=>if fY=sz∧(off+len)*sz≤cs.length then
    some (.val (.int .i64 (min n len:Nat)),.obj v (.row t g (cs.take (off*sz)++ys.take (min n len*sz)++cs.drop (off*sz+min n len*sz))))else none
  | none=>none
 | .eU,some _=>some (.val (.int .i64 0),.no)
 | _,_=>none
def oj(k:wQ)(x:D)(H:U):Option D:=
 match k,x with
 | .slice,.sl _ es=>some (.val (.int .i64 es.length))
 | .slice,.eU=>some (.val (.int .i64 0))
 | .slice,.lA vs=>some (.val (.int .i64 vs.length))
 | .slice,.eX _ _ _ _ len=>some (.val (.int .i64 len))
 | .string,.val (.string s)=>some (.val (.int .i64 s.size))
 | .map,.gF v=>match lT H v with
  | some (_,es)=>some (.val (.int .i64 es.length))
  | none=>none
 | _,_=>none
def z'(env:gd)(isMax:Bool)(xs:List X):Option D:=
 match pr env xs with
 | some [a,b]=>some (.val (.int .i64 (if isMax then max a b else min a b)))
 | some [a,b,c]=>some (.val (.int .i64 (if isMax then max (max a b) c else min (min a b) c)))
 | _=>none
def ye(x:D):Option D:=
 match x with
 | .ptr v g o=>some (.ptr v g o)
 | .fj cs=>some (.fj cs)
 | .fn (.func f) a b=>some (.fn (.func f) a b)
 | .iA v=>some (.iA v)
 | _=>none
def GL(k:IntKind)(x:D):Option D:=
 match x with
 | .val (.int _ n)=>some (.val (.int k (k.wrap n)))
 | _=>none
def y8(x:D)(H:U):Option D:=
 match j' 1 H x with
 | some (ys,_)=>match bytesOf ys with
  | some ns=>some (.val (.string (ns.foldl (fun r n=>r.push (UInt8.ofNat n.toNat)) ByteArray.empty)))
  | none=>none
 | none=>none
def lift:Option D→R
 | some d=>some (d,.no)
 | none=>none
def fO(env:gd)(H:U)(n:Nat):ij→R
 | .mv x=>lift (some (ev env x))
 | .pick c a b=>lift (yl (ev env c) (ev env a) (ev env b))
 | .box t x=>qq t (ev env x) n
 | .alloc t z=>some (.ptr n 0 0,.new (.row t 0 z))
 | .build z ps=>lift (y9 env z ps)
 | .buildSl t sz z m ps=>vh env t sz z m ps n
 | .ld1 x=>lift (tl (ev env x) H)
 | .ldN m x=>lift (tm m (ev env x) H)
 | .st1 a x=>yF (ev env a) (ev env x) H
 | .stN m a x=>yG m (ev env a) (ev env x) H
 | .nilck x=>lift (ye (ev env x))
 | .arith op x y=>lift (kd op (ev env x) (ev env y))
 | .eqS ja ls neg x y=>lift (xe ja ls neg (ev env x) (ev env y))
 | .un op x=>lift (Ax op (ev env x))
 | .conv k x=>lift (GL k (ev env x))
 | .b2s x=>lift (y8 (ev env x) H)
 | .mkfn f first cap=>lift (some (.fn f (first.map (ev env)) (cap.map (ev env))))
 | .mkmap kk=>some (.gF n,.new (.map kk []))
 | .mksl t sz bytes z l c=>Aa t sz bytes z (ev env l) (ev env c) n
 | .slc sz x lo hi=>lift (qS env sz (ev env x) lo hi)
 | .slcS x lo hi=>lift (IU env (ev env x) lo hi)
 | .slc3 sz x lo hi mx=>lift (yC env sz (ev env x) lo hi mx)
 | .slcArr sz n x lo hi=>lift (wE env sz n (ev env x) lo hi H)
 | .fieldA off x=>lift (BB off (ev env x))
 | .field off m ja x=>lift (xk off m ja (ev env x))
 | .idxA sz x i=>lift (mz sz (ev env x) (ev env i))
 | .idxArr sz m x i=>lift (Cr sz m (ev env x) (ev env i))
 | .idx sz m ja x i=>lift (HW sz m ja (ev env x) (ev env i))
 | .idxStr x i=>lift (LF (ev env x) (ev env i))
 | .lookup kk z ok m k=>lift (xZ kk z ok (ev env m) (ev env k) H)
 | .mapUpd kk m k x=>wh kk (ev env m) (ev env k) (ev env x) H
 | .ext x i=>lift (G6 (ev env x) i)
 | .call _ _ | .callN _ _ | .callv _ _=>none
 | .app t sz bytes x y=>pX t sz bytes (ev env x) (ev env y) H n
 | .copy sz x y=>vu sz (ev env x) (ev env y) H
 | .len k x=>lift (oj k (ev env x) H)
 | .minmax isMax xs=>lift (z' env isMax xs)
 | .nilS .. | .capE .. | .appZ .. | .clr .. | .rangeS .. | .nextS .. | .rangeM .. | .nextM .. | .entry .. | .mapEnt .. | .entSt .. => none
section
variable{env:gd}{H:U}{al:Al}{d:D}{δ:Dl}{K:iU}
def ae7{a b c:D}(h:yl a b c=some d)(hk:K d H):CV a b c H K:=by
 unfold yl at h
 unfold CV
 (repeat' split at h)<;>simp_all
def ZH{x:D}(h:tl x H=some d)(hk:K d H):CB x H K:=by
 unfold tl at h
 unfold CB
 (repeat' split at h)<;>simp_all
def ZI{n:Nat}{x:D}(h:tm n x H=some d)(hk:K d H):CD n x H K:=by
 unfold tm at h
 unfold CD
 (repeat' split at h)<;>simp_all
def Uy{z:List D}{ps:List (Nat×Nat×X)}(h:y9 env z ps=some d)(hk:K d H):wX env z ps H K:=by
 unfold y9 at h
 unfold wX
 (repeat' split at h)<;>simp_all
def aap{x:D}(h:ye x=some d)(hk:K d H):CR x H K:=by
 unfold ye at h
 unfold CR
 (repeat' split at h)<;>simp_all
def agH{op:UnOp}{x:D}(h:Ax op x=some d)(hk:K d H):Dy op x H K:=by
 unfold Ax at h
 unfold Dy
 (repeat' split at h)<;>simp_all
def VE{b:Bool}{ls:List nC}{neg:Bool}{x y:D}(h:xe b ls neg x y=some d)(hk:K d H):sV b ls neg x y H K:=by
 unfold xe at h
 unfold sV
 (repeat' split at h)<;>simp_all
def Ve{k:IntKind}{x:D}(h:GL k x=some d)(hk:K d H):Bn k x H K:=by
 unfold GL at h
 unfold Bn
 (repeat' split at h)<;>simp_all
def Ui{x:D}(h:y8 x H=some d)(hk:K d H):A' x H K:=by
 unfold y8 at h
 unfold A'
 (repeat' split at h)<;>simp_all
def agf{sz:Nat}{x:D}{lo hi:Option X}(h:qS env sz x lo hi=some d)(hk:K d H):Dk env sz x lo hi H K:=by
 unfold qS at h
 unfold Dk
 (repeat' split at h)<;>simp_all
def agb{sz:Nat}{x:D}{lo:Option X}{hi mx:X}(h:yC env sz x lo hi mx=some d)(hk:K d H):Di env sz x lo hi mx H K:=by
 unfold yC at h
 unfold Di
 (repeat' split at h)<;>simp_all<;>omega
def agd{sz n:Nat}{x:D}{lo hi:Option X}(h:wE env sz n x lo hi H=some d)(hk:K d H):Dj env sz n x lo hi H K:=by
 unfold wE at h
 unfold Dj
 (repeat' split at h)<;>simp_all
def age{x:D}{lo hi:Option X}(h:IU env x lo hi=some d)(hk:K d H):Ao env x lo hi H K:=by
 unfold IU at h
 unfold Ao
 (repeat' split at h)<;>simp_all
def WA{off:Nat}{x:D}(h:BB off x=some d)(hk:K d H):BA off x H K:=by
 unfold BB at h
 unfold BA
 (repeat' split at h)<;>simp_all
def PG{off n:Nat}{b:Bool}{x:D}(h:xk off n b x=some d)(hk:K d H):xj off n b x H K:=by
 unfold xk at h
 unfold xj
 (repeat' split at h)<;>simp_all
def Y0{sz:Nat}{x i:D}(h:mz sz x i=some d)(hk:K d H):Cp sz x i H K:=by
 unfold mz at h
 unfold Cp
 (repeat' split at h)<;>simp_all
def Y2{sz n:Nat}{x i:D}(h:Cr sz n x i=some d)(hk:K d H):Cq sz n x i H K:=by
 unfold Cr at h
 unfold Cq
 (repeat' split at h)<;>simp_all
def Y3{x i:D}(h:LF x i=some d)(hk:K d H):Ct x i H K:=by
 unfold LF at h
 unfold Ct
 (repeat' split at h)<;>simp_all
def Z3{kk:KK}{z:D}{ok:Bool}{m k:D}(h:xZ kk z ok m k H=some d)(hk:K d H):CH kk z ok m k H K:=by
 unfold xZ at h
 unfold CH
 split at h
 ·split at h
  ·split at h
   ·rename_i hc
    obtain⟨rfl,hc⟩:=hc
    simp only[*,true_and]
    split at h
    ·rename_i heq;cases h;simp only[heq];exact hk
    ·rename_i heq;cases h;simp only[heq];exact hk
   ·cases h
  ·cases h
 ·cases h
def VG{x:D}{i:Nat}(h:G6 x i=some d)(hk:K d H):Bw x i H K:=by
 unfold G6 at h
 unfold Bw
 (repeat' split at h)<;>simp_all
def ZS{k:wQ}{x:D}(h:oj k x H=some d)(hk:K d H):CE k x H K:=by
 unfold oj at h
 unfold CE
 (repeat' split at h)<;>simp_all
def aah{b:Bool}{xs:List X}(h:z' env b xs=some d)(hk:K d H):CO env b xs H K:=by
 unfold z' at h
 unfold CO
 (repeat' split at h)<;>simp_all
def Uc{op:BinOp}{k:IntKind}{a b:Int}(h:jl op k a b=some d)(hk:K d H):A8 op k a b H K:=by
 unfold jl at h
 unfold A8
 (repeat' split at h)<;>simp_all
def af9{op:BinOp}{k:IntKind}{a b:Int}(h:MW op k a b=some d)(hk:K d H):Dh op k a b H K:=by
 unfold MW at h
 unfold Dh
 (repeat' split at h)<;>simp_all
def agA{op:BinOp}{a b:ByteArray}(h:Av op a b=some d)(hk:K d H):I0 op a b H K:=by
 unfold Av at h
 unfold I0
 (repeat' split at h)<;>simp_all [oZ]
def Uv{t:TypeId}{x:D}(h:qq t x al.1=some (d,δ))(hk:K d (δ.app H al)):Bc t x al K:=by
 unfold qq at h
 unfold Bc
 (repeat' split at h)<;>cases h<;>simp_all [Dl.app]
def Ux{t sz:Nat}{z:List D}{m:Nat}{ps:List (Nat×X)}(h:vh env t sz z m ps al.1=some (d,δ))(hk:K d (δ.app H al)):Bd env t sz z m ps al K:=by
 unfold vh at h
 unfold Bd
 (repeat' split at h)<;>cases h<;>simp_all [Dl.app]
def Db{v g:Nat}{x:TypeId×List D}(h:rowAt H v g=some x):H[v]? = some (.row x.1 g x.2):=by
 unfold rowAt at h
 split at h
 ·split at h
  ·rename_i e;subst e;cases h;assumption
  ·cases h
 ·cases h
def agy{a x:D}(h:yF a x H=some (d,δ))(hk:K d (δ.app H al)):Dn a x H K:=by
 unfold yF at h
 unfold Dn
 split at h
 ·split at h
  ·rename_i v g o _ t cs gH
   split at h
   ·rename_i hc
    cases h
    simp only[gH]
    refine⟨hc.1,hc.2,?_⟩
    simp only[Dl.app,Db gH]at hk
    have e:cs.set o x=cs.take o ++ [x]++cs.drop (o + [x].length):=by
     rw[cH,if_pos hc.1];simp
    rw[e]
    exact hk
   ·cases h
  ·cases h
 ·cases h
def agz{n:Nat}{a x:D}(h:yG n a x H=some (d,δ))(hk:K d (δ.app H al)):Dp n a x H K:=by
 unfold yG at h
 unfold Dp
 split at h
 ·split at h
  ·rename_i v g o xs _ _ t cs gH
   split at h
   ·rename_i hc
    cases h
    simp only[*]
    refine⟨trivial,trivial,?_⟩
    simp only[Dl.app,Db gH]at hk
    rw[hc.1]at hk
    exact hk
   ·cases h
  ·cases h
 ·cases h
def aaj{t sz bytes:Nat}{z:List D}{l c:D}(h:Aa t sz bytes z l c al.1=some (d,δ))(hk:K d (δ.app H al)):CP t sz bytes z l c al K:=by
 unfold Aa at h
 unfold CP
 (repeat' split at h)<;>cases h<;>simp_all [Dl.app,oZ]
def aaf{kk:KK}{m k x:D}(h:wh kk m k x H=some (d,δ))(hk:K d (δ.app H al)):CL kk m k x H K:=by
 unfold wh at h
 unfold CL
 split at h
 ·split at h
  ·split at h
   ·rename_i hc
    obtain⟨rfl,hc⟩:=hc
    cases h
    simp only[*,true_and]
    exact hk
   ·cases h
  ·cases h
 ·cases h
def Ua{t sz bytes:Nat}{x y:D}(h:pX t sz bytes x y H al.1=some (d,δ))(hk:K d (δ.app H al)):A7 t sz bytes x y H al K:=by
 unfold pX at h
 unfold A7
 (repeat' split at h)<;>cases h<;>simp_all [Dl.app]
def Vg{sz:Nat}{x y:D}(h:vu sz x y H=some (d,δ))(hk:K d (δ.app H al)):Bq sz x y H K:=by
 unfold vu at h
 unfold Bq
 (repeat' split at h)<;>cases h<;>simp_all [Dl.app]
def Up{op:BinOp}{x y:D}(h:kd op x y=some d)(hk:K d H):Bb op x y H K:=by
 unfold kd at h
 unfold Bb
 split at h
 ·split at h
  ·rename_i hs;simp only[hs,if_true];exact af9 h hk
  ·rename_i hs
   simp only[hs]
   split at h
   ·rename_i e;exact⟨e,Uc h hk⟩
   ·cases h
 ·exact agA h hk
 ·cases h
def Y4{sz n:Nat}{b:Bool}{x i:D}(h:HW sz n b x i=some d)(hk:K d H):Cs sz n b x i H K:=by
 unfold HW at h
 unfold Cs
 split at h
 ·split at h
  ·rename_i hc;exact⟨hc,PG h hk⟩
  ·cases h
 ·cases h
def lq{o:Option D}(h:lift o=some (d,δ)):o=some d∧δ = .no:=by
 cases o<;>simp[lift]at h
 exact⟨by rw[h.1],h.2.symm⟩
def Ox{io:ij}(h:fO env H al.1 io=some (d,δ))(hk:K d (δ.app H al)):A6 env H al K io:=by
 cases io<;>simp only[fO]at h<;>simp only[A6]
 case mv=>obtain⟨h2,rfl⟩:=lq h;cases h2;exact hk
 case mkfn=>obtain⟨h2,rfl⟩:=lq h;cases h2;exact hk
 case alloc=>cases h;exact hk
 case mkmap=>cases h;exact hk
 case call=>cases h
 case callN=>cases h
 case callv=>cases h
 case nilS=>cases h
 case capE=>cases h
 case appZ=>cases h
 case clr=>cases h
 case rangeS=>cases h
 case nextS=>cases h
 case rangeM=>cases h
 case nextM=>cases h
 case entry=>cases h
 case mapEnt=>cases h
 case entSt=>cases h
 case box=>exact Uv h hk
 case buildSl=>exact Ux h hk
 case st1=>exact agy h hk
 case stN=>exact agz h hk
 case mksl=>exact aaj h hk
 case mapUpd=>exact aaf h hk
 case app=>exact Ua h hk
 case copy=>exact Vg h hk
 case pick=>obtain⟨h2,rfl⟩:=lq h;exact ae7 h2 hk
 case build=>obtain⟨h2,rfl⟩:=lq h;exact Uy h2 hk
 case ld1=>obtain⟨h2,rfl⟩:=lq h;exact ZH h2 hk
 case ldN=>obtain⟨h2,rfl⟩:=lq h;exact ZI h2 hk
 case nilck=>obtain⟨h2,rfl⟩:=lq h;exact aap h2 hk
 case arith=>obtain⟨h2,rfl⟩:=lq h;exact Up h2 hk
 case eqS=>obtain⟨h2,rfl⟩:=lq h;exact VE h2 hk
 case un=>obtain⟨h2,rfl⟩:=lq h;exact agH h2 hk
 case conv=>obtain⟨h2,rfl⟩:=lq h;exact Ve h2 hk
 case b2s=>obtain⟨h2,rfl⟩:=lq h;exact Ui h2 hk
 case slc=>obtain⟨h2,rfl⟩:=lq h;exact agf h2 hk
 case slc3=>obtain⟨h2,rfl⟩:=lq h;exact agb h2 hk
 case slcArr=>obtain⟨h2,rfl⟩:=lq h;exact agd h2 hk
 case slcS=>obtain⟨h2,rfl⟩:=lq h;exact age h2 hk
 case fieldA=>obtain⟨h2,rfl⟩:=lq h;exact WA h2 hk
 case field=>obtain⟨h2,rfl⟩:=lq h;exact PG h2 hk
 case idxA=>obtain⟨h2,rfl⟩:=lq h;exact Y0 h2 hk
 case idxArr=>obtain⟨h2,rfl⟩:=lq h;exact Y2 h2 hk
 case idx=>obtain⟨h2,rfl⟩:=lq h;exact Y4 h2 hk
 case idxStr=>obtain⟨h2,rfl⟩:=lq h;exact Y3 h2 hk
 case lookup=>obtain⟨h2,rfl⟩:=lq h;exact Z3 h2 hk
 case ext=>obtain⟨h2,rfl⟩:=lq h;exact VG h2 hk
 case len=>obtain⟨h2,rfl⟩:=lq h;exact ZS h2 hk
 case minmax=>obtain⟨h2,rfl⟩:=lq h;exact aah h2 hk
end
end Go.AL
namespace Go.AL
open Go
mutual
def flat:D→Bool
 | .any | .val _ | .eU=>true
 | .agg cs | .tup cs=>rQ cs
 | .sl _ es=>es.isEmpty
 | _=>false
def rQ:List D→Bool
 | []=>true
 | d::ds=>flat d&&rQ ds
end
def chunks(sz:Nat):Nat→List D→List (List D)
 | 0,_=>[]
 | n+1,cs=>cs.take sz::chunks sz n (cs.drop sz)
def e7(ρ:Nat→Option Nat)(H:U):Nat→D→D
 | 0,d=>if closed d then d else .any
 | k+1,d=>if closed d then d else match d with
  | .agg cs=>.agg (cs.map (e7 ρ H k))
  | .tup cs=>.tup (cs.map (e7 ρ H k))
  | .sl sz es=>.sl sz (es.map (·.map (e7 ρ H k)))
  | .fj cs=>.fj (cs.map (e7 ρ H k))
  | .fn f a b=>.fn f (a.map (e7 ρ H k)) (b.map (e7 ρ H k))
  | .eX v g sz off len=>match ρ v with
   | some v'=>.eX v' g sz off len
   | none=>match rowAt H v g with
    | some (_,cs)=>if (off+len)*sz≤cs.length then .sl sz (chunks sz len ((cs.drop (off*sz)).map (e7 ρ H k)))else .any
    | none=>.any
  | .ptr v g off=>match ρ v with
   | some v'=>.ptr v' g off
   | none=>match rowAt H v g with
    | some (_,cs)=>.fj ((cs.drop off).map (e7 ρ H k))
    | none=>.any
  | .gF v=>match ρ v with
   | some v'=>.gF v'
   | none=>.any
  | .iA v=>match ρ v with
   | some v'=>.iA v'
   | none=>.any
  | d=>d
def nW(ρ:Nat→Option Nat)(H:U):Ob→Ob
 | .row t g cs=>.row t g (cs.map (e7 ρ H 40))
 | .map kk es=>.map kk (es.map fun x=>(x.1,e7 ρ H 40 x.2))
 | .gL rf env st=>.gL rf (env.map fun x=>(x.1,e7 ρ H 40 x.2)) st
 | .qn s p=>.qn s p
 | .lL m since seen=>.lL (e7 ρ H 40 m) since seen
 | .kJ=>.kJ
 | .dead=>.dead
 | .kZ=>.dead
abbrev mi:=List (Nat×Bool)
def ic(ks:mi)(v:Nat):Option Nat:=ks.findIdx? (fun p=>p.2&&p.1 == v)
def pB(ks:mi)(H:U):U:=ks.map fun p=>if p.2 then(match H[p.1]? with|some o=>nW (ic ks) H o|none=>.dead)else .dead
def iH(n:Nat):D→List Nat
 | .eX v _ _ _ _=>if n≤v then [v]else []
 | .ptr v _ _=>if n≤v then [v]else []
 | .gF v=>if n≤v then [v]else []
 | .iA v=>if n≤v then [v]else []
 | _=>[]
def oo(n:Nat):Ob→List Nat
 | .row _ _ cs=>(cs.map (iH n)).flatten
 | .map _ es=>(es.map fun x=>iH n x.2).flatten
 | _=>[]
def dedup:List Nat→List Nat
 | []=>[]
 | x::r=>if x∈r then dedup r else x::dedup r
def iF(n:Nat)(K:List Nat):mi:=((List.range n).map fun v=>(v,true))++K.map fun v=>(v,true)
def forget(live:List Nat)(env:Env):Env:=live.map fun k=>(k,env.get k)
structure St where
 env:Env
 H:U
 marks:List Nat:=[]
 gZ:Bool:=false
 deriving Inhabited
def yf(live:List Nat):Bool:=match live with
 | k::_=>Nat.beq k 9999
 | []=>false
def cut(n:Nat)(live:List Nat)(s:St):St:=
 let env:=forget live s.env
 if s.H.length≤n∨yf live=true then{ s with env:=env }else
 let K:=dedup (((env.map fun p=>iH n p.2).flatten++((s.H.take n).map (oo n)).flatten++s.marks.filter (n≤·)).filter (· < s.H.length))
 let ks:=iF n K
 { s with env:=env.map fun p=>(p.1,e7 (ic ks) s.H 40 p.2),H:=pB ks s.H,marks:=s.marks.map fun v=>(ic ks v).getD v }
def Ae(n:Nat):D→List Nat
 | .eX v _ _ 0 _=>if n≤v then [v]else []
 | .tup ds=>(ds.map fun d=>match d with | .eX v _ _ 0 _=>if n≤v then [v]else []|_=>[]).flatten
 | _=>[]
inductive IR where
 | skip
 | ops (l:List ff)
 | kK (iW:List (Nat×Nat)) (l:List ff)
 | lP (iW:List (Nat×Nat)) (l es:List ff)
 | seq (a b:IR)
 | cond (c:X) (a b:IR)
 | block (id:Nat) (live:List Nat) (a:IR)
 | loop (live:List Nat) (a:IR)
 | lZ (rf:Nat) (live:List Nat) (x:X)
 | exit (id:Nat)
 | ret
 | bad
 | fz (S:List Nat) (a:IR)
 | rR (S:List Nat) (a b:List ff)
 deriving Inhabited
inductive sL where
 | tmp (t:Nat)
 | vj (t:Nat)
 | pZ (n t:Nat)
 deriving Inhabited
structure eV where
 ntmps:Nat
 body:IR
 results:List sL
 full:Bool:=false
 own:Nat:=0
 fz:Bool:=false
 deriving Inhabited
def Ai(s:St):sL→Option D
 | .tmp t=>some (s.env.get t)
 | .vj t=>tl (s.env.get t) s.H
 | .pZ n t=>tm n (s.env.get t) s.H
def rC(s:St):List sL→Option (List D)
 | []=>some []
 | x::r=>match Ai s x,rC s r with
  | some d,some l=>some (d::l)
  | _,_=>none
def results(fn:eV)(s:St):Option D:=match rC s fn.results with
 | some [d]=>some d
 | some ds=>some (.tup ds)
 | none=>none
def qI(args:List D):Env:=args.zipIdx.map fun p=>(p.2,p.1)
def qQ:List Nat→List D→Env→Env
 | k::ks,d::ds,env=>qQ ks ds ((k,d)::env)
 | _,_,env=>env
def jN(env:gd):ij→Option (FuncId×List D)
 | .call f args=>some (f,args.map (ev env))
 | .callN f args=>some (f,args.map (ev env))
 | .callv f args=>match ev env f with
  | .fn (.func k) first cap=>some (k,first++args.map (ev env)++cap)
  | _=>none
 | _=>none
def Cv:ij→Bool
 | .call _ _ | .callN _ _ | .callv _ _=>true
 | _=>false
def guardOf(env:gd):Option (Nat×Bool)→Option Bool
 | none=>some true
 | some (s,want)=>match env s with
  | .val (.bool b)=>some (b == want)
  | .val (.tuple _)=>some false
  | _=>none
def uH(n:Nat):D→D
 | .eX v g sz off len=>.eX (v+n) g sz off len
 | d=>d
def jK(n:Nat):D→D
 | .eX v g sz off len=>.eX (v+n) g sz off len
 | .tup ds=>.tup (ds.map (uH n))
 | .agg ds=>.agg (ds.map (uH n))
 | d=>d
def mL:Ob→Bool
 | .row _ _ cs=>fE cs
 | _=>false
def oe:Ob→Bool
 | .row _ _ cs=>rQ cs
 | _=>false
def uL(p:D→Bool):D→Bool
 | .eX .. => true
 | d=>p d
def tu(p:D→Bool):D→Bool
 | .eX .. => true
 | .tup ds=>ds.all (uL p)
 | .agg ds=>ds.all (uL p)
 | d=>p d
def lU:D→Bool:=tu closed
def np:D→Bool:=tu flat
def rowsOf(H:U)(v:Nat):Option (TypeId×Nat×List D):=match H[v]? with
 | some (.row t g cs)=>some (t,g,cs)
 | _=>none
def gX(H:U):Nat→D→List Nat
 | 0,_=>[]
 | k+1,d=>if closed d then []else match d with
  | .agg cs | .tup cs | .fj cs=>(cs.map (gX H k)).flatten
  | .sl _ es=>(es.map fun e=>(e.map (gX H k)).flatten).flatten
  | .fn _ a b=>(a.map (gX H k)).flatten++(b.map (gX H k)).flatten
  | .eX v _ _ _ _ | .ptr v _ _=>v::(match rowsOf H v with
   | some (_,_,cs)=>(cs.map (gX H k)).flatten
   | none=>[])
  | .gF v | .iA v=>[v]
  | _=>[]
def leave(own:Nat)(n:Nat)(H:U)(d:D):D×U:=
 if H.length≤n∨own=4 then(d,H)else
 let K:=dedup (((match own with|0=>[]|1=>Ae n d|3=>((gX H 40 d).filter (n≤·)).take 1|_=>(gX H 40 d).filter (n≤·))++((H.take n).map (oo n)).flatten).filter (· < H.length))
 let ks:=iF n K
 (e7 (ic ks) H 40 d,pB ks H)
def lB(H:U)(S:List Nat):mi:=(List.range H.length).map fun v=>(v,!(S.contains v))
structure nD where
 params:List Nat
 a:IR
 b:IR
 deriving Inhabited
structure gP where
 fn:FuncId→Option eV
 round:Nat→Option nD:=fun _=>none
 sort:FuncId→Option Nat:=fun _=>none
 qT:FuncId→Bool:=fun _=>false
def after(s:St)(dst:Option Nat)(args:List D)(r:D)(Hn:U):Option St:=
 if (if fE args then lU r&&Hn.all mL else np r&&Hn.all oe)then
  some { s with env:=put s.env dst (jK s.H.length r),H:=s.H++Hn }else none
def kX(S:List Nat)(s:St):St:=
 let ks:=lB s.H S
 { s with env:=s.env.map fun p=>(p.1,e7 (ic ks) s.H 40 p.2),H:=pB ks s.H }
end Go.AL
namespace Go.AL
open Go
def tX{ds:List D}(h:fE ds=true){i:Nat}{d:D}(hd:ds[i]? = some d):closed d=true:=by
 induction ds generalizing i with
 | nil=>simp at hd
 | cons x xs ih=>
  simp only[fE,ah]at h
  cases i with
  | zero=>simp at hd;subst hd;exact h.1
  | succ i=>exact ih h.2 (by simpa using hd)
def UW{es:List (List D)}(h:zf es=true){i:Nat}{e:List D}(he:es[i]? = some e):fE e=true:=by
 induction es generalizing i with
 | nil=>simp at he
 | cons x xs ih=>
  simp only[zf,ah]at h
  cases i with
  | zero=>simp at he;subst he;exact h.1
  | succ i=>exact ih h.2 (by simpa using he)
theorem eW.closed{c c':Ctx}{w:World}(hF:∀ b,c.F b→c'.F b){u:Value}{d:D}(h:eW c w u d)(hc:closed d=true):eW c' w u d:=by
 induction h with
 | any v=>exact .any _
 | val v=>exact .val _
 | agg vs ds hl h1 h ih=>exact .agg vs _ hl h1 fun i v d hv hd=>ih i v d hv hd (tX hc hd)
 | tup vs ds hl h ih=>exact .tup vs _ hl fun i v d hv hd=>ih i v d hv hd (tX hc hd)
 | sl a len cap sz es g hlen ju ix gV kC nO hr ih=>
  refine .sl a len cap sz _ g hlen ju ix gV kC ?_ fun i e j d he hd=>ih i e j d he hd (tX (UW hc he) hd)
  intro i e j d he hd
  obtain⟨b,o,ha,oE,mO,h1⟩:=nO i e j d he hd
  exact⟨b,o,ha,hF b oE,mO,h1⟩
 | eU=>exact .eU
 | lA a vs ix kC nO=>
  refine .lA a vs ix kC ?_
  intro i v hv
  obtain⟨b,o,ha,oE,mO,h1⟩:=nO i v hv
  exact⟨b,o,ha,hF b oE,mO,h1⟩
 | eX=>cases hc
 | lE=>cases hc
 | ptr=>cases hc
 | fj b o cs g oE nO hr ih=>exact .fj b o _ g (hF b oE) nO fun j d hd=>ih j d hd (tX hc hd)
 | gF=>cases hc
 | fn f fs cs df dc ji iZ h1 h2 pM qF=>
  simp only[AL.closed,ah]at hc
  exact .fn f fs cs _ _ ji iZ (fun i v d hv hd=>pM i v d hv hd (tX hc.1 hd)) (fun i v d hv hd=>qF i v d hv hd (tX hc.2 hd))
 | iA=>cases hc
def zo{ds:List D}(h:rQ ds=true){i:Nat}{d:D}(hd:ds[i]? = some d):flat d=true:=by
 induction ds generalizing i with
 | nil=>simp at hd
 | cons x xs ih=>
  simp only[rQ,ah]at h
  cases i with
  | zero=>simp at hd;subst hd;exact h.1
  | succ i=>exact ih h.2 (by simpa using hd)
theorem eW.flat{c c':Ctx}{w:World}{u:Value}{d:D}(h:eW c w u d)(hc:flat d=true):eW c' w u d:=by
 induction h with
 | any v=>exact .any _
 | val v=>exact .val _
 | agg vs ds hl h1 h ih=>exact .agg vs _ hl h1 fun i v d hv hd=>ih i v d hv hd (zo hc hd)
 | tup vs ds hl h ih=>exact .tup vs _ hl fun i v d hv hd=>ih i v d hv hd (zo hc hd)
 | sl a len cap sz es g hlen ju ix gV kC nO hr ih=>
  simp only[AL.flat,cK]at hc
  subst hc
  exact .sl a len cap sz _ g hlen ju ix (by simp) kC (by simp) (by simp)
 | eU=>exact .eU
 | lA=>cases hc
 | eX=>cases hc
 | lE=>cases hc
 | ptr=>cases hc
 | fj=>cases hc
 | gF=>cases hc
 | fn=>cases hc
 | iA=>cases hc
theorem OF(sz:Nat):∀ (n:Nat) (cs:List D),(chunks sz n cs).length=n
 | 0,_=>rfl
 | n+1,cs=>by simp[chunks,OF sz n]
theorem JC(sz:Nat):∀ (n:Nat) (cs:List D) (i:Nat) (e:List D),(chunks sz n cs)[i]? = some e→i<n∧e=(cs.drop (i*sz)).take sz
 | 0,_,i,e,h=>by simp[chunks]at h
 | n+1,cs,0,e,h=>by simp[chunks]at h;subst h;simp
 | n+1,cs,i+1,e,h=>by
  simp only[chunks,ey]at h
  obtain⟨h1,h2⟩:=JC sz n _ i e h
  refine⟨by omega,?_⟩
  rw[h2,bT]
  congr 2
  rw[aT];omega
def aga{c:Ctx}{w:World}{b o sz len cap:Nat}{vs:List Value}{ds:List D}(hF:c.F b)(hc:Cells c w vs ds)(hl:ds.length=len*sz)(ju:len≤cap)(ix:cap≤maxLen)
  (hv:∀ (j:Nat) (v:Value),vs[j]? = some v→w.cell? ⟨b,o+j,none⟩=some v):eW c w (.slice (some ⟨b,o,none⟩) len cap) (.sl sz (chunks sz len ds)):=by
 have iw:∀ (i:Nat) (e:List D) (j:Nat) (d:D),(chunks sz len ds)[i]? = some e→e[j]? = some d→ds[i*sz+j]? = some d∧j<sz:=by
  intro i e j d he hd
  obtain⟨_,rfl⟩:=JC sz len ds i e he
  rw[aC]at hd
  split at hd
  ·rename_i hj;rw[aD]at hd;exact⟨hd,hj⟩
  ·cases hd
 refine .sl _ len cap sz _ (fun i j=>vs.getD (i*sz+j) undef) (OF _ _ _) ju ix ?_ (by simp) ?_ ?_
 ·intro e he
  obtain⟨i,hi⟩:=aG.1 he
  obtain⟨h1,rfl⟩:=JC sz len ds i e hi
  simp only[aI,aX,hl]
  have:(i+1)*sz≤len*sz:=bf _ h1
  rw[aT]at this
  omega
 ·intro i e j d he hd
  obtain⟨h1,_⟩:=iw i e j d he hd
  obtain⟨v,my,ng,_⟩:=hc.get h1
  refine⟨b,o,rfl,hF,?_,?_⟩
  ·simp only[List.getD,my,aL];exact hv _ _ my
  ·simp only[List.getD,my,aL];exact ng
 ·intro i e j d he hd
  obtain⟨h1,_⟩:=iw i e j d he hd
  obtain⟨v,my,_,Lx⟩:=hc.get h1
  simp only[List.getD,my,aL];exact Lx
theorem Cells.map{c c':Ctx}{w:World}{f:D→D}(hr:∀ v d,eW c w v d→eW c' w v (f d)){vs:List Value}{cs:List D}(h:Cells c w vs cs):Cells c' w vs (cs.map f):=
 ⟨by simpa using h.len,h.one,fun i v d hv hd=>by
  simp only[aq,aj]at hd
  obtain⟨d0,km,rfl⟩:=hd
  exact hr _ _ (h.rep i v d0 hv km)⟩
def Ctx.e7(c:Ctx)(ks:mi)(H:U):Ctx where
 ι:=fun i g=>match ks[i]? with
  | some p=>c.ι p.1 g
  | none=>none
 F:=fun b=>c.F b∨∃ v L,kR c H v L∧ic ks v=none∧L.jc=false∧L.b=b
 RT:=c.RT
def SY{ks:mi}{v i:Nat}(h:ic ks v=some i):ks[i]? = some (v,true):=by
 unfold ic at h
 rw[dq]at h
 obtain⟨hi,hp,_⟩:=h
 simp only[ah,beq_iff_eq]at hp
 rw[List.getElem?_eq_getElem hi]
 congr 1
 exact cS hp.2 hp.1
def SV{ks:mi}{v:Nat}(h:ic ks v=none)(i:Nat):ks[i]?≠some (v,true):=by
 intro hi
 unfold ic at h
 rw[ec]at h
 have:=h _ (aM hi)
 simp at this
section
variable{G:GT}{c:Ctx}{H:U}{w:World}{ks:mi}
def AG{v i g:Nat}(h:ic ks v=some i):(c.e7 ks H).ι i g=c.ι v g:=by simp[Ctx.e7,SY h]
def yX{b:Nat}(h:c.F b):(c.e7 ks H).F b:=Or.inl h
def Oe{v:Nat}{L:Loc}(h1:kR c H v L)(h2:ic ks v=none)(h3:L.jc=false):(c.e7 ks H).F L.b:=Or.inr ⟨v,L,h1,h2,h3,rfl⟩
theorem wv(h:fr G c H w):∀ (k:Nat) {u:Value} {d:D},eW c w u d→eW (c.e7 ks H) w u (e7 (ic ks) H k d)
 | 0,u,d,hr=>by
  unfold AL.e7
  split
  ·rename_i hc;exact hr.closed (fun b hb=>yX hb) hc
  ·exact .any _
 | k+1,u,d,hr=>by
  have ih:=fun{u:Value} {d:D} (hr:eW c w u d)=>wv h k hr
  unfold AL.e7
  split
  ·rename_i hc;exact hr.closed (fun b hb=>yX hb) hc
  ·cases hr with
   | any v=>exact .any _
   | val v=>exact .val _
   | agg vs ds hl h1 h2=>
     refine .agg vs _ (by simpa using hl) h1 fun i v d hv hd=>?_
     simp only[aq,aj]at hd
     obtain⟨d0,km,rfl⟩:=hd
     exact ih (h2 i v d0 hv km)
   | tup vs ds hl h2=>
     refine .tup vs _ (by simpa using hl) fun i v d hv hd=>?_
     simp only[aq,aj]at hd
     obtain⟨d0,km,rfl⟩:=hd
     exact ih (h2 i v d0 hv km)
   | sl a len cap sz es g hlen ju ix gV kC nO hr=>
    refine .sl a len cap sz _ g (by simpa using hlen) ju ix ?_ kC ?_ ?_
    ·intro e he
     simp only[aw]at he
     obtain⟨e0,BR,rfl⟩:=he
     simpa using gV e0 BR
    ·intro i e j d he hd
     simp only[aq,aj]at he
     obtain⟨e0,BR,rfl⟩:=he
     simp only[aq,aj]at hd
     obtain⟨d0,km,rfl⟩:=hd
     obtain⟨b,o,ha,oE,mO,h1⟩:=nO i e0 j d0 BR km
     exact⟨b,o,ha,yX oE,mO,h1⟩
    ·intro i e j d he hd
     simp only[aq,aj]at he
     obtain⟨e0,BR,rfl⟩:=he
     simp only[aq,aj]at hd
     obtain⟨d0,km,rfl⟩:=hd
     exact ih (hr i e0 j d0 BR km)
   | eU=>exact .eU
   | lA a vs h1 h2 h3=>rename_i hn;exact absurd rfl hn
   | eX v g sz off len cap L e9 hv ju ix lJ=>
    dsimp only
    split
    ·rename_i v' kP
     exact .eX v' g sz off len cap L (by rw[AG kP];exact e9) hv ju ix lJ
    ·rename_i K7
     split
     ·rename_i t cs gH
      split
      ·rename_i lH
       have uv:=qP gH
       obtain⟨arr,h1,h2,h3,h4⟩:=uP h uv e9 hv
       have iL:=(((h4.drop (off*sz)).map (fun _ _ hr=>ih hr)).take (len*sz))
       have hlen:((cs.drop (off*sz)).map (AL.e7 (ic ks) H k)).length=(cs.length-off*sz):=by simp
       have KG:chunks sz len ((cs.drop (off*sz)).map (AL.e7 (ic ks) H k))=chunks sz len (((cs.drop (off*sz)).map (AL.e7 (ic ks) H k)).take (len*sz)):=by
        have key:∀ (n:Nat) (xs:List D),chunks sz n xs=chunks sz n (xs.take (n*sz)):=by
         intro n
         induction n with
         | zero=>intro xs;rfl
         | succ n ih=>
          intro xs
          simp only[chunks]
          rw[di,Nat.min_eq_left (by rw[aT];omega),ih (xs.drop sz),List.drop_take,show(n+1)*sz-sz=n*sz by rw[aT];omega]
        exact key _ _
       rw[KG]
       refine aga (Oe ⟨_,uv,rfl,e9⟩ K7 hv) iL ?_ ju ix fun j x hx=>?_
       ·rw[aI,hlen]
        rw[aT]at lH
        omega
       ·rw[aC]at hx
        split at hx
        ·rw[aD,aC]at hx
         split at hx
         ·rw[aD]at hx
          simp[World.cell?,h1]
          rw[a7]
          simpa using hx
         ·cases hx
        ·cases hx
      ·exact .any _
     ·exact .any _
   | lE v g sz off L e9 a=>
    dsimp only
    split
    ·rename_i v' kP
     exact .lE v' g sz off L (by rw[AG kP];exact e9) a
    ·split
     ·split
      ·exact .sl a 0 0 sz _ (fun _ _=>undef) rfl (Nat.le_refl _) (by unfold maxLen;omega) (by simp[chunks]) (fun _=>rfl) (by simp[chunks]) (by simp[chunks])
      ·exact .any _
     ·exact .any _
   | ptr v g off L e9 hv=>
    dsimp only
    split
    ·rename_i v' kP
     exact .ptr v' g off L (by rw[AG kP];exact e9) hv
    ·rename_i K7
     split
     ·rename_i t cs gH
      have uv:=qP gH
      obtain⟨arr,h1,h2,h3,h4⟩:=uP h uv e9 hv
      refine J9 (Oe ⟨_,uv,rfl,e9⟩ K7 hv) ⟨_,(h4.drop off).map (fun _ _ hr=>ih hr),fun j x hx=>?_⟩
      rw[aD,aC]at hx
      split at hx
      ·rw[aD]at hx
       simp[World.cell?,h1]
       rw[a7]
       simpa using hx
      ·cases hx
     ·exact .any _
   | fj b o cs g oE nO hr=>
    refine .fj b o _ g (yX oE) ?_ ?_
    ·intro j d hd
     simp only[aq,aj]at hd
     obtain⟨d0,km,rfl⟩:=hd
     exact nO j d0 km
    ·intro j d hd
     simp only[aq,aj]at hd
     obtain⟨d0,km,rfl⟩:=hd
     exact ih (hr j d0 km)
   | gF v L e9 hv=>
    dsimp only
    split
    ·rename_i v' kP;exact .gF v' L (by rw[AG kP];exact e9) hv
    ·exact .any _
   | fn f fs cs df dc ji iZ h1 h2=>
    refine .fn f fs cs _ _ (by simpa using ji) (by simpa using iZ) ?_ ?_
    ·intro i v d hv hd
     simp only[aq,aj]at hd
     obtain⟨d0,km,rfl⟩:=hd
     exact ih (h1 i v d0 hv km)
    ·intro i v d hv hd
     simp only[aq,aj]at hd
     obtain⟨d0,km,rfl⟩:=hd
     exact ih (h2 i v d0 hv km)
   | iA v L e9 hv=>
    dsimp only
    split
    ·rename_i v' kP;exact .iA v' L (by rw[AG kP];exact e9) hv
    ·exact .any _
