/- Part 4 of DisputeLocal. -/
import Derived.Test.YtmehofoficaelaaGreatDoorL03
import Derived.Laws.IdiomRangeMap
import Derived.RangeFuncLeaves
import Derived.OwnWalkIn
set_option linter.all false
namespace Go.AL
open Go
section
variable{G:GT}{c:Ctx}{H:U}{w:World}{ks:mi}
def wN(ks:mi):Prop:=∀ (i j:Nat) (p q:Nat×Bool),ks[i]? = some p→ks[j]? = some q→p.1=q.1→i=j
def MQ{i:Nat}{o:Ob}(h:(pB ks H)[i]? = some o)(ha:o≠.dead):∃ v o0,ks[i]? = some (v,true)∧H[v]? = some o0∧o=nW (ic ks) H o0:=by
 unfold pB at h
 simp only[aq,aj]at h
 obtain⟨p,hp,he⟩:=h
 split at he
 ·rename_i hb
  split at he
  ·rename_i o0 QO
   exact⟨p.1,o0,by rw[hp,← hb],QO,he.symm⟩
  ·exact absurd he.symm ha
 ·exact absurd he.symm ha
def Tf{o:Ob}(h:(nW (ic ks) H o).alive=true):o.alive=true∧(nW (ic ks) H o).gen=o.gen:=by
 cases o<;>simp_all [nW,Ob.alive,Ob.gen]
def MH{v i:Nat}(hk:wN ks)(h:ks[i]? = some (v,true)):ic ks v=some i:=by
 cases hr:ic ks v with
 | none=>exact absurd h (SV hr i)
 | some j=>
  have:=SY hr
  rw[hk i j _ _ h this rfl]
def H9{i:Nat}{L:Loc}(h:kR (c.e7 ks H) (pB ks H) i L):∃ v,ks[i]? = some (v,true)∧kR c H v L:=by
 obtain⟨o,ho,ha,e9⟩:=h
 obtain⟨v,o0,h1,h2,rfl⟩:=MQ ho (by intro e;subst e;cases ha)
 obtain⟨a1,a2⟩:=Tf ha
 refine⟨v,h1,o0,h2,a1,?_⟩
 rw[a2]at e9
 simpa[Ctx.e7,h1]using e9
def Sy{b:Nat}(h:ly (c.e7 ks H) (pB ks H) b):ly c H b:=by
 obtain⟨i,L,hl,hv,e⟩:=h
 obtain⟨v,_,h2⟩:=H9 hl
 exact⟨v,L,h2,hv,e⟩
def Am(h:fr G c H w)(hk:wN ks):fr G (c.e7 ks H) (pB ks H) w where
 inj i j L L' h1 h2 h3 h4 he:=by
  obtain⟨v,k1,l1⟩:=H9 h1
  obtain⟨v',k2,l2⟩:=H9 h2
  have:=h.inj v v' L L' l1 l2 h3 h4 he
  subst this
  exact hk i j _ _ k1 k2 rfl
 lt b hb:=h.lt b (Sy hb)
 nF b hb hF:=by
  obtain⟨i,L,hl,hv,e⟩:=hb
  obtain⟨v,k1,l1⟩:=H9 hl
  rcases hF with hF|⟨v',L',l2,hn,kP,e'⟩
  ·exact h.nF b ⟨v,L,l1,hv,e⟩ hF
  ·have:=h.inj v v' L L' l1 l2 hv kP (e.trans e'.symm)
   subst this
   exact SV hn i k1
 jY b hb:=by
  rcases hb with hb|⟨v,L,l,_,hv,e⟩
  ·exact h.jY b hb
  ·exact h.lt b ⟨v,L,l,hv,e⟩
 out i k hi:=by
  simp only[pB,List.length_map]at hi
  simp[Ctx.e7,aQ hi]
 lC i o k ho jC:=by
  have gE:o≠.dead:=by
   rintro rfl
   rcases jC with jC|⟨jC,_⟩<;>cases jC
  obtain⟨v,o0,h1,h2,rfl⟩:=MQ ho gE
  rcases jC with jC|⟨ha,hg⟩
  ·cases o0<;>simp[nW]at jC
  ·obtain⟨a1,a2⟩:=Tf ha
   have:=h.lC v o0 k h2 (.inr ⟨a1,by rw[← a2];exact hg⟩)
   simpa[Ctx.e7,h1]using this
 ob i o ho:=by
  by_cases gE:o = .dead
  ·subst gE;simp[gq]
  ·obtain⟨v,o0,h1,h2,rfl⟩:=MQ ho gE
   have h0:=h.ob v o0 h2
   have e9:(c.e7 ks H).ι i o0.gen=c.ι v o0.gen:=by simp[Ctx.e7,h1]
   have hr:∀ u d,eW c w u d→eW (c.e7 ks H) w u (e7 (ic ks) H 40 d):=fun u d hd=>wv h 40 hd
   cases o0 with
   | dead=>simp[nW,gq]
   | kZ=>simp[nW,gq]
   | row t g cs=>
    simp only[nW,Ob.gen]at e9 ⊢
    rw[e9]
    simp only[Ob.gen]at h0
    cases hL:c.ι v g with
    | none=>rw[hL]at h0;simp[gq]at h0
    | some L=>
     rw[hL]at h0
     simp only[gq]at h0 ⊢
     split
     ·rename_i hv;simp only[hv,if_true]at h0;simp[h0]
     ·rename_i hv
      simp only[hv]at h0
      obtain⟨arr,a1,a2,a3,a4⟩:=h0
      refine⟨arr,a1,a2,by simpa using a3,fun j d hd=>?_⟩
      simp only[aq,aj]at hd
      obtain⟨d0,km,rfl⟩:=hd
      obtain⟨x,oX,kD,uz⟩:=a4 j d0 km
      exact⟨x,oX,kD,hr _ _ uz⟩
   | map kk es=>
    simp only[nW,Ob.gen]at e9 ⊢
    rw[e9]
    simp only[Ob.gen]at h0
    cases hL:c.ι v 0 with
    | none=>rw[hL]at h0;simp[gq]at h0
    | some L=>
     rw[hL]at h0
     simp only[gq]at h0 ⊢
     obtain⟨hv,ko,arr,clock,a1,a2,a3,a4⟩:=h0
     refine⟨hv,fun x hx=>?_,arr,clock,a1,by simpa using a2,fun j e x he hx=>?_,by simpa using a4⟩
     ·obtain⟨y,hy,rfl⟩:=aw.1 hx
      exact ko y hy
     ·simp only[aq,aj]at hx
      obtain⟨y,hy,rfl⟩:=hx
      obtain⟨p,q,r⟩:=a3 j e y he hy
      exact⟨p,hr _ _ q,r⟩
   | gL rf env st=>
    simp only[nW,Ob.gen]at e9 ⊢
    rw[e9]
    simp only[Ob.gen]at h0
    cases hL:c.ι v 0 with
    | none=>rw[hL]at h0;simp[gq]at h0
    | some L=>
     rw[hL]at h0
     simp only[gq]at h0 ⊢
     obtain⟨hv,r,a1,a2,a3,a4⟩:=h0
     refine⟨hv,r,a1,fun k=>?_,a3,a4⟩
     have key:∀ (env:Env) (k:Nat),(Env.get (env.map fun x=>(x.1,e7 (ic ks) H 40 x.2)) k)=e7 (ic ks) H 40 (env.get k):=by
      intro env k
      induction env with
      | nil=>rfl
      | cons p r ih=>
       obtain⟨j,d⟩:=p
       simp only[List.map_cons,Env.sZ]
       split
       ·rfl
       ·exact ih
     rw[key]
     exact hr _ _ (a2 k)
   | qn s p=>
    simp only[nW,Ob.gen]at e9 ⊢
    rw[e9]
    simp only[Ob.gen]at h0
    cases hL:c.ι v 0 with
    | none=>rw[hL]at h0;simp[gq]at h0
    | some L=>
     rw[hL]at h0
     simpa only[gq]using h0
   | lL m since seen=>
    simp only[nW,Ob.gen]at e9 ⊢
    rw[e9]
    simp only[Ob.gen]at h0
    cases hL:c.ι v 0 with
    | none=>rw[hL]at h0;simp[gq]at h0
    | some L=>
     rw[hL]at h0
     simp only[gq]at h0 ⊢
     obtain⟨a1,a2,bm,a3,a4⟩:=h0
     exact⟨a1,a2,bm,hr _ _ a3,a4⟩
   | kJ=>
    simp only[nW,Ob.gen]at e9 ⊢
    rw[e9]
    simp only[Ob.gen]at h0
    cases hL:c.ι v 0 with
    | none=>rw[hL]at h0;simp[gq]at h0
    | some L=>
     rw[hL]at h0
     simpa only[gq]using h0
 gl g cs hg:=by
  obtain⟨h1,h2⟩:=h.gl g cs hg
  exact⟨h1,h2.closed (fun b hb=>yX hb) (by simpa[AL.closed]using h1)⟩
 rt:=h.rt
def MV(h:fr G c H w){n:Nat}(hn:∀ v,v<n→(ks[v]?).map (·.1)=some v):Step n c H w (c.e7 ks H) (pB ks H) w where
 os:=⟨rfl,Nat.le_refl _⟩
 tape:=rfl
 output:=rfl
 size:=Nat.le_refl _
 RT:=rfl
 Fm b hb:=yX hb
 Fn b hb:=by
  rcases hb with hb|⟨v,L,l,_,hv,e⟩
  ·exact .inl hb
  ·exact .inr (.inr ⟨v,L,l,hv,e⟩)
 kept _ _ _:=rfl
 old v k L hv e9:=by
  have:=hn v hv
  simp only[aj]at this
  obtain⟨p,hp,e⟩:=this
  simp only[Ctx.e7,hp,e]
  exact e9
 own b hb:=.inr (Sy hb)
def WT(env:Env)(k:Nat):(Env.get (env.map fun x=>(x.1,e7 (ic ks) H 40 x.2)) k)=e7 (ic ks) H 40 (env.get k):=by
 induction env with
 | nil=>rfl
 | cons p r ih=>
  obtain⟨j,d⟩:=p
  simp only[List.map_cons,Env.sZ]
  split
  ·rfl
  ·exact ih
def Pn(h:fr G c H w){env:Env}{a:Act}(he:kb c w env.get a):kb (c.e7 ks H) w (Env.get (env.map fun x=>(x.1,e7 (ic ks) H 40 x.2))) a:=fun k=>by
 rw[WT]
 exact wv h 40 (he k)
def WI(live:List Nat)(env:Env)(k:Nat):(forget live env).get k = .any∨(forget live env).get k=env.get k:=by
 unfold forget
 induction live with
 | nil=>exact .inl rfl
 | cons x r ih=>
  simp only[List.map_cons,Env.sZ]
  split
  ·rename_i e;subst e;exact .inr rfl
  ·exact ih
def zi{env:Env}{a:Act}(he:kb c w env.get a)(live:List Nat):kb c w (forget live env).get a:=fun k=>by
 rcases WI live env k with h|h<;>rw[h]
 ·exact .any _
 ·exact he k
theorem CN{x:Nat}:∀ {l:List Nat},x∈dedup l→x∈l
 | [],h=>h
 | y::r,h=>by
  unfold dedup at h
  split at h
  ·exact aS _ (CN h)
  ·rcases av.1 h with rfl|h
   ·exact dR
   ·exact aS _ (CN h)
theorem GV{x:Nat}:∀ {l:List Nat},x∈l→x∈dedup l
 | y::r,h=>by
  unfold dedup
  split
  ·rename_i hy
   rcases av.1 h with rfl|h
   ·exact GV hy
   ·exact GV h
  ·rcases av.1 h with rfl|h
   ·exact dR
   ·exact aS _ (GV h)
theorem Il:∀ (l:List Nat),(dedup l).Nodup
 | []=>List.nodup_nil
 | y::r=>by
  unfold dedup
  split
  ·exact Il r
  ·rename_i hn
   exact List.nodup_cons.2 ⟨fun h=>hn (CN h),Il r⟩
def Ro(h:(ks.map (·.1)).Nodup):wN ks:=by
 intro i j p q hp hq e
 have hi:(ks.map (·.1))[i]? = some p.1:=by simp[hp]
 have hj:(ks.map (·.1))[j]? = some q.1:=by simp[hq]
 have s8:=(af.1 hi).1
 have mP:=(af.1 hj).1
 rw[List.getElem?_eq_getElem s8]at hi
 rw[List.getElem?_eq_getElem mP]at hj
 simp only[ak]at hi hj
 exact(List.getElem_inj h).1 (by rw[hi,hj,e])
def Rr{n:Nat}{K:List Nat}(hK:∀ v∈K,n≤v)(hd:K.Nodup):wN (iF n K):=by
 apply Ro
 unfold iF
 simp only[List.map_append,cv,dX,List.map_id']
 rw[cT]
 refine⟨eo,hd,fun a ha b hb e=>?_⟩
 subst e
 have:=hK a hb
 simp at ha
 omega
def Rq{n:Nat}{K:List Nat}(v:Nat)(hv:v<n):((iF n K)[v]?).map (·.1)=some v:=by
 unfold iF
 rw[ag (by simpa using hv)]
 simp[hv]
def PZ{S:List Nat}:wN (lB H S):=by
 apply Ro
 unfold lB
 simp only[cv,dX,List.map_id']
 exact eo
def PY{S:List Nat}(v:Nat)(hv:v<H.length):((lB H S)[v]?).map (·.1)=some v:=by
 unfold lB
 simp[hv]
def J'{S:List Nat}:(pB (lB H S) H).length=H.length:=by simp[pB,lB]
end
end Go.AL
namespace Go.AL
open Go
def GK:Operand→Bool
 | .const (.slice none 0 0)=>true
 | _=>false
def Aq(P:Program)(t:TypeId):Bool:=match P.underlying t with
 | some (.slice _)=>true
 | _=>false
def p5(P:Program)(G:GT)(o:Oper):Option ij:=
 match o.op with
 | .binOp .eql t x y _=>if Aq P t=true∧GK y=true then(cX G x).map (.nilS false)else none
 | .binOp .neq t x y _=>if Aq P t=true∧GK y=true then(cX G x).map (.nilS true)else none
 | .range t x=>match P.underlying t,cX G x with
  | some .string,some a=>some (.rangeS a)
  | some (.map _ _),some a=>some (.rangeM a)
  | _,_=>none
 | .next x true=>(cX G x).map .nextS
 | .next x false=>(cX G x).map .nextM
 | .entry x=>(cX G x).map .entry
 | .call c=>match c.callee,c.argTypes.toList,c.args.toList with
  | .builtin .cap,[t],[x]=>if Aq P t then(cX G x).map .capE else none
  | .builtin .clear,[t],[x]=>match P.underlying t with
   | some (.slice e)=>match o9 P e,P.info? e,cX G x with
    | some z,some i,some a=>if z.length=i.size∧0<i.size then some (.clr i.size z a)else none
    | _,_,_=>none
   | _=>none
  | .builtin .append,[t,u],[x,y]=>match P.underlying t,P.underlying u with
   | some (.slice e),some (.int .i64)=>match o9 P e,P.info? e,cX G x,cX G y with
    | some z,some i,some a,some b=>if z.length=i.size∧0<i.size then some (.appZ e i.size i.bytes z a b)else none
    | _,_,_,_=>none
   | _,_=>none
  | _,_,_=>none
 | .mapEntry t m k=>match P.underlying t with
  | some (.map kt e)=>match rv P kt,AE P e,cX G m,cX G k with
   | some kk,some z,some a,some b=>some (.mapEnt kk z a b)
   | _,_,_,_=>none
  | _=>none
 | .entryStore _ m s x=>match cX G m,cX G s,cX G x with
  | some a,some b,some c=>some (.entSt a b c)
  | _,_,_=>none
 | _=>none
def x5(kv:Value):List (Value×D)→Nat→Option (Nat×D)
 | [],_=>none
 | (k,d)::r,i=>if mV kv k then some (i,d)else x5 kv r (i+1)
def L5(nj:KK)(z:D)(m k:D)(H:U):R:=
 match m,keyOf k with
 | .gF v,some kv=>match lT H v with
  | some (kk,es)=>if kk=nj∧kk.has kv=true then(match x5 kv es 0 with
    | some (j,d)=>some (.tup [d,.i j],.obj v (.map kk (lK es kv d)))
    | none=>some (.tup [z,.i es.length],.obj v (.map kk (lK es kv z))))else none
  | none=>none
 | _,_=>none
def JR(m s x:D)(H:U):R:=
 match m,s with
 | .gF v,.val (.int .i64 n)=>match lT H v with
  | some (kk,es)=>match es[n.toNat]? with
   | some (k,_)=>if 0≤n then some (.any,.obj v (.map kk (es.set n.toNat (k,x))))else none
   | none=>none
  | none=>none
 | _,_=>none
def Ik(neg:Bool):D→Option D
 | .eU=>some (.b !neg)
 | .sl _ (_::_)=>some (.b neg)
 | .eX _ _ _ _ (_+1)=>some (.b neg)
 | _=>none
def Gk(t sz bytes:Nat)(z:List D)(x n:D)(vn:Nat):R:=
 match x,n with
 | .eU,.val (.int .i64 m)=>if 0<m∧oZ (m*bytes) 140737488355328∧oZ m 9223372036854775807 then some (.eX vn 0 sz 0 m.toNat,.new (.row t 0 (List.replicate m.toNat z).flatten))else none
 | _,_=>none
def Bj(sz:Nat)(z:List D)(x:D)(H:U):R:=
 match x with
 | .eU=>some (.any,.no)
 | .eX v g fY off len=>match rowAt H v g with
  | some (t,cs)=>if fY=sz∧(off+len)*sz≤cs.length then some (.any,.obj v (.row t g (cs.take (off*sz)++(List.replicate len z).flatten++cs.drop ((off+len)*sz))))else none
  | none=>none
 | _=>none
def Mk(x:D)(H:U):R:=
 match x with
 | .ptr v 0 0=>match H[v]? with
  | some (.qn s p)=>if p<s.size then some (.tup [.b true,.i p,.val (.int .i32 (Utf8.decode s p).1)],.obj v (.qn s (p+(Utf8.decode s p).2)))else some (.tup [.b false],.no)
  | _=>none
 | _=>none
def Mx(x:D)(H:U)(vn:Nat):R:=
 match x with
 | .gF m=>match lT H m with
  | some (_,es)=>some (.ptr vn 0 0,.new (.lL (.gF m) es.length []))
  | none=>none
 | _=>none
def JS(x:D)(H:U):Option D:=
 match x with
 | .ptr v 0 0=>match H[v]? with
  | some (.lL (.gF m) since seen)=>match lT H m,seen.getLast? with
   | some (_,es),some i=>match es[i]? with
    | some (k,d)=>if es.length=since then some (.tup [ru k,d])else none
    | none=>none
   | _,_=>none
  | _=>none
 | _=>none
def lu(env:gd)(H:U)(n:Nat):ij→R
 | .nilS neg x=>lift (Ik neg (ev env x))
 | .capE x=>match ev env x with
  | .eU=>some (.i 0,.no)
  | _=>none
 | .appZ t sz bytes z x m=>Gk t sz bytes z (ev env x) (ev env m) n
 | .clr sz z x=>Bj sz z (ev env x) H
 | .rangeS x=>match ev env x with
  | .val (.string s)=>some (.ptr n 0 0,.new (.qn s 0))
  | _=>none
 | .nextS x=>Mk (ev env x) H
 | .rangeM x=>Mx (ev env x) H n
 | .entry x=>lift (JS (ev env x) H)
 | .mapEnt kk z m k=>L5 kk z (ev env m) (ev env k) H
 | .entSt m s x=>JR (ev env m) (ev env s) (ev env x) H
 | _=>none
def IY:ij→Bool
 | .nilS .. | .capE .. | .appZ .. | .clr .. | .rangeS .. | .nextS .. | .rangeM .. | .nextM .. | .entry .. | .mapEnt .. | .entSt .. => true
 | _=>false
def agv{op:ij}(h:IY op=true)(f:gd)(H:U)(n:Nat):fO f H n op=none:=by
 cases op<;>first|(cases h;done)|rfl
def agw{op:ij}(h:IY op=true)(f:gd):jN f op=none:=by
 cases op<;>first|(cases h;done)|rfl
def JJ{P:Program}{G:GT}{o:Oper}{io:ij}(h:p5 P G o=some io):IY io=true:=by
 unfold p5 at h
 repeat' split at h
 all_goals first|(cases h;done)|(simp only[aj]at h;obtain⟨_,_,rfl⟩:=h;rfl)|(cases h;rfl)
section
variable{P:Program}{G:GT}{c:Ctx}{H:U}{w:World}{env:gd}{a:Act}
abbrev KO(H:U)(al:Al)(d:D)(δ:Dl):iU:=fun d' H'=>d'=d∧H'=δ.app H al
def Ii(h:fr G c H w){al:Al}(gu:l5 H al)(o:Obj)(ob:Ob)(hg:ob.gen=0)(ha:ob.alive=true)
  (gD:(∀ u d,eW c w u d→eW (c.set al.1 0 ⟨w.heap.size,0,0,false⟩) (w.alloc o) u d)→(w.alloc o).heap[w.heap.size]? = some o→gq (c.set al.1 0 ⟨w.heap.size,0,0,false⟩) (w.alloc o) (some ⟨w.heap.size,0,0,false⟩) ob) :
  fr G (c.set al.1 0 ⟨w.heap.size,0,0,false⟩) (al.2 ob) (w.alloc o)∧eW (c.set al.1 0 ⟨w.heap.size,0,0,false⟩) (w.alloc o) (.pointer (some ⟨w.heap.size,0,none⟩)) (.ptr al.1 0 0) ∧
   Step H.length c H w (c.set al.1 0 ⟨w.heap.size,0,0,false⟩) (al.2 ob) (w.alloc o):=by
 have hL:(⟨w.heap.size,0,0,false⟩:Loc).jc=false→w.heap.size≤(⟨w.heap.size,0,0,false⟩:Loc).b∧(⟨w.heap.size,0,0,false⟩:Loc).b<(w.alloc o).heap.size:=fun _=>⟨Nat.le_refl _,by simp⟩
 have ht:=(gu ob).qU
 have hs:=I4 h ht (jz.alloc w o) ⟨w.heap.size,0,0,false⟩ hL
 rw[hg]at hs
 have h1:=M8 h ht (jz.alloc w o) ⟨w.heap.size,0,0,false⟩ hL ha (by rw[hg];exact gD (fun u d hd=>hd.ox h.toHeapOK hs) (heap_alloc_new w o))
 rw[hg]at h1
 exact⟨h1,.ptr (c:=c.set al.1 0 ⟨w.heap.size,0,0,false⟩) al.1 0 0 ⟨w.heap.size,0,0,false⟩ (Ctx.qR _ _ _ _) rfl,hs⟩
def Sn(h:fr G c H w){t:TypeId}(ht:Aq P t=true){neg:Bool}{x d:D}{u:Value}(hr:eW c w u x)(ho:Ik neg x=some d)(xo yo:Operand) :
  ∃ r,(do eqGuard (if neg then .neq else .eql) t xo yo u (.slice none 0 0);binOp (if neg then .neq else .eql) t u (.slice none 0 0)).run P w = .ok r w∧eW c w r d:=by
 have Lv:∃ e,P.underlying t=some (.slice e):=by
  unfold Aq at ht
  split at ht
  ·exact⟨_,by assumption⟩
  ·cases ht
 obtain⟨e,hu⟩:=Lv
 have heq:∀ (n:Nat) (ad:Option Addr) (len cap:Nat),(Op.equalIn (n+1) t (.slice ad len cap) (.slice none 0 0)).run P w = .ok ad.isNone w:=by
  intro n ad len cap
  cases ad<;>simp[Op.equalIn,run_underlying hu]
 have gW:∀ ad len cap,Op.equal t (.slice ad len cap) (.slice none 0 0)=Op.equalIn (9999+1) t (.slice ad len cap) (.slice none 0 0):=fun _ _ _=>rfl
 have key:∀ (ad:Option Addr) (len cap:Nat),u = .slice ad len cap→(do eqGuard (if neg then .neq else .eql) t xo yo u (.slice none 0 0);binOp (if neg then .neq else .eql) t u (.slice none 0 0)).run P w = .ok (.bool (if neg then !ad.isNone else ad.isNone)) w:=by
  rintro ad len cap rfl
  have h1:=heq 9999 ad len cap
  cases neg<;>simp only[eqGuard,binOp,gW,br,if_false,if_true,Sem.run_bind,Bool.not_true,Sem.run_pure,Result.andThen_ok,h1]
 unfold Ik at ho
 split at ho
 ·cases ho
  cases hr
  exact⟨_,key none 0 0 rfl,by cases neg<;>exact .val _⟩
 ·cases ho
  cases hr with
  | sl ad len cap sz es g hlen ju ix gV kC hc Ll=>
   have:ad≠none:=fun e=>by have:=kC e;simp at hlen;omega
   obtain⟨q,rfl⟩:=Option.ne_none_iff_exists'.1 this
   exact⟨_,key _ _ _ rfl,by cases neg<;>exact .val _⟩
 ·cases ho
  cases hr with
  | eX _ _ _ _ _ cap L e9 hv ju ix lJ=>exact⟨_,key _ _ _ rfl,by cases neg<;>exact .val _⟩
 ·cases ho
def aev(h:fr G c H w){v g o:Nat}{t':TypeId}{cs xs:List D}(hv:H[v]? = some (.row t' g cs)){L:Loc}(e9:c.ι v g=some L)(gI:L.jc=false){vs:List Value}(hx:Cells c w vs xs)
  (lH:o+xs.length≤cs.length):∃ w',(storeCells ⟨L.b,L.base+o,none⟩ vs).run P w = .ok () w'∧fr G c (H.set v (.row t' g (cs.take o++xs++cs.drop (o+xs.length)))) w'∧Step H.length c H w c (H.set v (.row t' g (cs.take o++xs++cs.drop (o+xs.length)))) w':=by
 obtain⟨arr,h1,h2,h3,h4⟩:=uP h hv e9 gI
 have qj:vs.length=xs.length:=hx.len
 have fm:=run_storeCells_at P L.b (L.base+o) t' vs 0 arr w h1 (by simp;omega) hx.one
 simp only[bQ]at fm
 have hw:=DB h hv e9 gI h1 (arr.toList.take (L.base+o)++vs++arr.toList.drop (L.base+o+vs.length)).toArray
  (by simp;omega) h2 (cs.take o++xs++cs.drop (o+xs.length)) (by simp;omega) (fun i d hd=>by
   have HP:=h4.pQ hx o
   obtain⟨y,hy,h5,h6⟩:=HP.get hd
   refine⟨y,?_,h5,h6⟩
   rw[← hy]
   simp only[cU]
   have ji:(List.take (L.base+o) arr.toList).length=L.base+o:=by simp;omega
   have iZ:(List.take o (List.take cs.length (List.drop L.base arr.toList))).length=o:=by simp;omega
   by_cases c1:i<o
   ·rw[ag (by simp;omega),ag (by rw[ji];omega),ag (by simp;omega),ag (by rw[iZ];omega)]
    simp only[aC,aD]
    rw[if_pos (by omega),if_pos c1,if_pos (by omega)]
   ·by_cases c2:i<o+xs.length
    ·rw[ag (by simp;omega),ao (by rw[ji];omega),ag (by simp;omega),ao (by rw[iZ];omega),ji,iZ]
     congr 1
     omega
    ·have nR:i<cs.length:=by have:=(af.1 hd).1;simp at this;omega
     rw[ao (by simp;omega),ao (by simp;omega)]
     simp only[aD,aC,az,ji,iZ,qj]
     rw[if_pos (by omega)]
     congr 1
     omega)
 exact⟨_,fm,hw.1,hw.2⟩
def aew(h:fr G c H w){al:Al}{t e ty:TypeId}{i:TypeInfo}{z:List D}(hu:P.underlying t=some (.slice e))(hi:P.info? e=some i)(hz:o9 P e=some z)(zW:z.length=i.size)(jQ:0<i.size)
  {x d:D} {δ:Dl} {u:Value} (hr:eW c w u x) (ho:Bj i.size z x H=some (d,δ)):∃ w',(Builtin.clear_ #[t] ty #[u]).run P w = .ok (.tuple #[]) w'∧iB G c H w (KO H al d δ) (.tuple #[]) w':=by
 unfold Bj at ho
 split at ho
 ·cases ho
  cases hr
  exact⟨w,by simp[Builtin.clear_,run_underlying hu],_,_,c,⟨rfl,rfl⟩,h,.any _,Step.refl _ _ _ _⟩
 ·rename_i v g fY off len
  split at ho
  ·rename_i t' cs gH
   split at ho
   ·rename_i iJ
    obtain⟨rfl,lH⟩:=iJ
    cases ho
    have hv:=qP gH
    dsimp only at hv
    obtain⟨zv,sk,HU,qE⟩:=wC hz w
    have sj:zv.cells.size=i.size:=by have:=(qE c w).len;simp at this;omega
    have Hs:(Dl.obj v (.row t' g (cs.take (off*i.size)++(List.replicate len z).flatten++cs.drop ((off+len)*i.size)))).app H al=H.set v (.row t' g (cs.take (off*i.size)++(List.replicate len z).flatten++cs.drop ((off+len)*i.size))):=rfl
    have qz:(List.replicate len z).flatten.length=len*i.size:=by simp[zW]
    have HN:(.row t' g (cs.take (off*i.size)++(List.replicate 0 z).flatten++cs.drop ((off+0)*i.size)))=Ob.row t' g cs:=by simp
    have sf:H.set v (.row t' g cs)=H:=by
     have gi:=(af.1 hv).1
     have iw:=(af.1 hv).2
     rw[← iw];exact List.set_getElem_self gi
    cases hr with
    | eX _ _ _ _ _ cap L e9 gI ju ix lJ=>
     by_cases hn:len=0
     ·subst hn
      refine⟨w,by simp[Builtin.clear_,run_underlying hu],_,_,c,⟨rfl,rfl⟩,?_,.any _,?_⟩
      ·rw[Hs,HN,sf];exact h
      ·rw[Hs,HN,sf];exact Step.refl _ _ _ _
     ·have oS:Cells c w (Builtin.zeroCells zv.cells len).toList (List.replicate len z).flatten:=by
       have h1:(Builtin.zeroCells zv.cells len).toList=(List.replicate len zv.cells.toList).flatten:=by
        unfold Builtin.zeroCells
        exact IA zv.cells len (by omega)
       rw[h1]
       exact Hc _ _ qE len
      obtain⟨w',k1,k2,k3⟩:=aev (P:=P) (o:=off*i.size) h hv e9 gI oS (by rw[qz,← aT];exact lH)
      rw[qz,← aT]at k2 k3
      refine⟨w',?_,_,_,c,⟨rfl,rfl⟩,k2,.any _,k3⟩
      obtain⟨am4,rfl⟩:=Nat.exists_eq_succ_of_ne_zero hn
      simp[Builtin.clear_,run_underlying hu,sk,k1]
    | lE _ _ _ _ L e9 ad=>
     refine⟨w,by cases ad<;>simp[Builtin.clear_,run_underlying hu],_,_,c,⟨rfl,rfl⟩,?_,.any _,?_⟩
     ·rw[Hs,HN,sf];exact h
     ·rw[Hs,HN,sf];exact Step.refl _ _ _ _
   ·cases ho
  ·cases ho
 ·cases ho
def aeo(h:fr G c H w){al:Al}(gu:l5 H al){t u ty e:TypeId}{i:TypeInfo}{z:List D}(ht:P.underlying t=some (.slice e))(hu:P.underlying u=some (.int .i64))(hi:P.info? e=some i)(hz:o9 P e=some z)(zW:z.length=i.size)(jQ:0<i.size)
  {x y d:D} {δ:Dl} {ux uy:Value} (h1:eW c w ux x) (h2:eW c w uy y) (ho:Gk e i.size i.bytes z x y al.1=some (d,δ)) :
  ∃ r w',(Builtin.append_ #[t,u] ty #[ux,uy]).run P w = .ok r w'∧iB G c H w (KO H al d δ) r w':=by
 unfold Gk at ho
 split at ho
 ·rename_i m
  split at ho
  ·rename_i iJ
   cases ho
   cases h1
   cases h2
   obtain⟨zv,sk,HU,qE⟩:=wC hz w
   have zV:i.zero=some zv:=by simpa[hi]using HU
   have sj:zv.cells.size=i.size:=by have:=(qE c w).len;simp at this;omega
   obtain⟨n,rfl⟩:∃ n:Nat,m=n:=⟨m.toNat,by omega⟩
   obtain⟨X9,nN,vE⟩:=iJ
   simp only[oZ]at nN vE
   have QI:0<n:=by omega
   have Xu:n*i.bytes≤140737488355328:=by
    have h1:((n*i.bytes:Nat):Int)≤140737488355328:=by rw[Int.natCast_mul];exact nN
    omega
   have Qa:n≤9223372036854775807:=by omega
   have rW:=grownCap_ge w n 0 e
   have nf:=grownCap_le_maxLen w n 0 e (by unfold maxLen;omega)
   have wn:IntKind.i64.wrap (n:Int)=n:=wrap_i64 (by unfold mI;omega)
   have gK:(Builtin.append_ #[t,u] ty #[.slice none 0 0,.int .i64 n]).run P w = .ok (.slice (some ⟨w.heap.size,0,none⟩) n (grownCap w n 0 e))
     (w.drew.alloc (.cells (Builtin.zeroCells zv.cells n++Builtin.zeroCells zv.cells (grownCap w n 0 e-n)) e)):=by
    have Yf:¬ (n=0):=by omega
    have Xo:∀ w:World,(asInt (.int .i64 (n:Int))).run P w = .ok (n:Int) w:=fun w=>by simp[asInt,asIntOf]
    have hle:¬ ((n:Int)≤0):=by omega
    have mr:max (n:Int) 0=n:=by omega
    have hnt:(n:Int).toNat=n:=by omega
    have gV:¬ (i.size=0):=by omega
    have Yb:¬ ((n:Int)<0):=by omega
    have W4:¬ (281474976710656<(n:Int)*(i.bytes:Int)):=by have:(n:Int)*(i.bytes:Int)≤140737488355328:=nN;omega
    have Km:¬ (281474976710656<Builtin.nextslicecap n 0*i.bytes):=by have:=growslice_fits (old:=0) QI Xu;omega
    have W6:¬ (9223372036854775807<(n:Int)):=by omega
    simp[Builtin.append_,run_underlying ht,run_underlying hu,sizeOf,typeInfo,zeroValue,hi,zV,Xo,wn,Yb,W4,Yf,gV,Km,W6,hle,mr,Question.forced,newRow,grownCap,run_firstCells_none]
    intro h0
    exact absurd h0 (Nat.ne_of_gt (Nat.mul_pos QI jQ))
   refine⟨_,_,gK,?_⟩
   have oS:Cells c w (Builtin.zeroCells zv.cells n).toList (List.replicate n z).flatten:=by
    have h1:(Builtin.zeroCells zv.cells n).toList=(List.replicate n zv.cells.toList).flatten:=by
     unfold Builtin.zeroCells
     exact IA zv.cells n (by omega)
    rw[h1]
    exact Hc _ _ qE n
   have gV:(Builtin.zeroCells zv.cells n++Builtin.zeroCells zv.cells (grownCap w n 0 e-n)).size=grownCap w n 0 e*i.size:=by
    simp only[bU,size_zeroCells,sj,← aT]
    congr 1;omega
   obtain⟨L,e1,e2,e3,e4,e5,e6⟩:=Ab h w.drew (jz.drew w) e _ (List.replicate n z).flatten (Builtin.zeroCells zv.cells n).size (Builtin.zeroCells zv.cells n++Builtin.zeroCells zv.cells (grownCap w n 0 e-n)) (gu _).qU oS (by
    simp only[cN]
    exact List.take_left' (by simp)) (by simp only[bU];omega)
   have hp:=CU (c:=c) (w:=w.drew.alloc (.cells (Builtin.zeroCells zv.cells n++Builtin.zeroCells zv.cells (grownCap w n 0 e-n)) e)) e1 e3 al.1 0 i.size n (grownCap w n 0 e) (by rw[e4,gV]) rW nf
   rw[e2]at hp
   exact⟨_,_,_,⟨rfl,rfl⟩,e5,hp,e6⟩
  ·cases ho
 ·cases ho
def aeP(h:fr G c H w){al:Al}{x d:D}{δ:Dl}{u:Value}{ty:TypeId}(hr:eW c w u x)(ho:Mk x H=some (d,δ)):∃ r w',(Instr.next u true ty).run P w = .ok r w'∧iB G c H w (KO H al d δ) r w':=by
 unfold Mk at ho
 split at ho
 ·rename_i v
  split at ho
  ·rename_i s p hv
   cases hr with
   | ptr _ _ _ L e9 gI=>
    have gD:=h.ob v _ hv
    simp only[Ob.gen]at gD
    rw[e9]at gD
    simp only[gq]at gD
    obtain⟨_,vI,hblk⟩:=gD
    have gi:=(aK.1 hblk).1
    rw[vI]
    by_cases hp:p<s.size
    ·rw[if_pos hp]at ho
     cases ho
     obtain⟨m1,m2⟩:=wI h hv rfl rfl (ob':=.qn s (p+(Utf8.decode s p).2)) rfl e9 gI (.stringIter s (p+(Utf8.decode s p).2)) (fun w' oW _=>by
      simp only[gq];exact⟨gI,vI,oW⟩)
     refine⟨.tuple #[.bool true,goInt p,.int .i32 (Utf8.decode s p).1],_,?_,_,_,c,⟨rfl,rfl⟩,m1,?_,m2⟩
     ·simp[Instr.next,getObj,setObj,Sem.run,hblk,hp]
     ·refine .tup [.bool true,goInt p,.int .i32 (Utf8.decode s p).1] _ rfl fun i v d hv hd=>?_
      match i,hv,hd with
      | 0,hv,hd=>cases hv;cases hd;exact .val _
      | 1,hv,hd=>cases hv;cases hd;exact .val _
      | 2,hv,hd=>cases hv;cases hd;exact .val _
    ·rw[if_neg hp]at ho
     cases ho
     refine⟨.tuple #[.bool false],w,?_,_,_,c,⟨rfl,rfl⟩,h,?_,Step.refl _ _ _ _⟩
     ·simp[Instr.next,getObj,Sem.run,hblk,hp]
     ·refine .tup [.bool false] _ rfl fun i v d hv hd=>?_
      match i,hv,hd with
      | 0,hv,hd=>cases hv;cases hd;exact .val _
  ·cases ho
 ·cases ho
def aeA(h:fr G c H w){x d:D}{u:Value}(hr:eW c w u x)(ho:JS x H=some d):∃ r,(Instr.entry u).run P w = .ok r w∧eW c w r d:=by
 unfold JS at ho
 split at ho
 ·rename_i v
  split at ho
  ·rename_i m since seen hv
   split at ho
   ·rename_i kk es i hm xL
    split at ho
    ·rename_i k d0 KP
     split at ho
     ·rename_i hlen
      cases ho
      have xM:=qH hm
      dsimp only at xM
      cases hr with
      | ptr _ _ _ L e9 gI=>
       have gD:=h.ob v _ hv
       simp only[Ob.gen]at gD
       rw[e9]at gD
       simp only[gq]at gD
       obtain⟨_,vI,bm,zR,hblk⟩:=gD
       cases zR with
       | gF _ Lm xV HS=>
        have qe:=h.ob m _ xM
        simp only[Ob.gen]at qe
        rw[xV]at qe
        simp only[gq]at qe
        obtain⟨_,qd,arr,clock,B5,gV,kn,BP⟩:=qe
        have hi:i<arr.size:=by rw[gV];exact(af.1 KP).1
        have KA:arr[i]? = some arr[i]:=by simp[hi]
        obtain⟨q1,q2,q3⟩:=kn i _ _ KA KP
        have Xp:seen.toArray.back? = some i:=by simpa[Array.back?_eq_getElem?,List.getLast?_eq_getElem?]using xL
        have XL:arr.find? (fun e=>e.born == i)=some arr[i]:=by
         rw[Array.find?_eq_some_iff_getElem]
         refine⟨by simp[q3],i,hi,rfl,fun j hj=>?_⟩
         have mP:j<es.length:=by rw[← gV];omega
         have:=(kn j arr[j] es[j] (by simp) (by simp[mP])).2.2
         simp[this]
         try omega
        refine⟨.tuple #[k,arr[i].val],?_,?_⟩
        ·rw[vI]
         have hc:clock=since:=by rw[BP,hlen]
         subst hc
         simp only[aR]
         simp only[Instr.entry,getObj,Sem.run_bind,Sem.run,hblk,Result.andThen_ok,Xp,B5,XL]
         simp[q1]
        ·refine .tup [k,arr[i].val] _ rfl fun j v d hv hd=>?_
         match j,hv,hd with
         | 0,hv,hd=>cases hv;cases hd;exact SP (qd _ (aM KP))
         | 1,hv,hd=>cases hv;cases hd;exact q2
     ·cases ho
    ·cases ho
   ·cases ho
  ·cases ho
 ·cases ho
def aeS(h:fr G c H w){al:Al}(gu:l5 H al){t:TypeId}{k e:TypeId}(hu:P.underlying t=some (.map k e)){x d:D}{δ:Dl}{u:Value}(hr:eW c w u x)(ho:Mx x H al.1=some (d,δ)) :
  ∃ r w',(Instr.range t u).run P w = .ok r w'∧iB G c H w (KO H al d δ) r w':=by
 unfold Mx at ho
 split at ho
 ·rename_i m
  split at ho
  ·rename_i kk es hm
   cases ho
   have xM:=qH hm
   dsimp only at xM
   cases hr with
   | gF _ Lm xV HS=>
    have qe:=h.ob m _ xM
    simp only[Ob.gen]at qe
    rw[xV]at qe
    simp only[gq]at qe
    obtain⟨_,_,arr,clock,B5,gV,kn,BP⟩:=qe
    obtain⟨k1,k2,k3⟩:=Ii h gu (.mapIter (some Lm.b) clock #[] clock) (.lL (.gF m) es.length []) rfl rfl (fun se hb=>by
     simp only[gq]
     refine⟨trivial,trivial,Lm.b,se _ _ (.gF m Lm xV HS),?_⟩
     rw[← BP];exact hb)
    exact⟨_,_,run_range_map w t k e Lm.b arr clock hu B5,_,_,_,⟨rfl,rfl⟩,k1,k2,k3⟩
  ·cases ho
 ·cases ho
theorem PK{kv:Value}:∀ {l:List MapEntry} {i n:Nat} {v:Value},mE kv l i=some (n,v)→i≤n
 | [],_,_,_,h=>by cases h
 | a::l,i,n,v,h=>by
  unfold mE at h
  split at h
  ·cases h;exact Nat.le_refl _
  ·have:=PK h;omega
theorem PL{kv:Value}:∀ {l:List MapEntry} {i j:Nat} {v:Value} {e:MapEntry},mE kv l i=some (i+j,v)→l[j]? = some e→e.val=v
 | [],_,_,_,_,h,_=>by cases h
 | a::l,i,j,v,e,h,he=>by
  unfold mE at h
  split at h
  ·simp only[ak,c8]at h
   obtain⟨h1,rfl⟩:=h
   have:j=0:=by omega
   subst this
   cases he
   rfl
  ·cases j with
   | zero=>exact absurd (PK h) (by omega)
   | succ j=>exact PL (i:=i+1) (j:=j) (by rw[h];congr 2;omega) he
theorem RV(kv:Value):∀ (l:List MapEntry) (es:List (Value×D)) (i:Nat),l.length=es.length →
  (∀ (j:Nat) (e:MapEntry) (x:Value×D),l[j]? = some e→es[j]? = some x→e.key=x.1∧eW c w e.val x.2) →
  (mE kv l i=none∧x5 kv es i=none)∨∃ j v d,mE kv l i=some (i+j,v)∧x5 kv es i=some (i+j,d)∧eW c w v d
 | [],[],i,_,_=>.inl ⟨rfl,rfl⟩
 | e::l,(k,d)::es,i,hl,h=>by
  obtain⟨hk,hr⟩:=h 0 e (k,d) rfl rfl
  dsimp only at hk hr
  by_cases he:mV kv e.key=true
  ·exact .inr ⟨0,e.val,d,by simp[mE,he],by simp[x5,← hk,he],hr⟩
  ·have s6:mV kv k=false:=by rw[← hk];simpa using he
   rcases RV kv l es (i+1) (by simpa using hl) (fun j e x he hx=>h (j+1) e x (by simpa using he) (by simpa using hx))with⟨h1,h2⟩|⟨j,v,d',h1,h2,h3⟩
   ·exact .inl ⟨by simp[mE,he,h1],by simp[x5,s6,h2]⟩
   ·exact .inr ⟨j+1,v,d',by simp[mE,he,h1];omega,by simp[x5,s6,h2];omega,h3⟩
def aeL(h:fr G c H w){al:Al}{t k e:TypeId}{kk:KK}{z:D}(hu:P.underlying t=some (.map k e))(ko:rv P k=some kk)(hz:AE P e=some z){m x d:D}{δ:Dl}{u v:Value}(h1:eW c w u m)(h2:eW c w v x)
  (ho:L5 kk z m x H=some (d,δ)):∃ r w',(Instr.mapEntry t u v).run P w = .ok r w'∧iB G c H w (KO H al d δ) r w':=by
 have Lf:(kk = .str∨kk = .bool∨∃ k,kk = .int k)∨∃ l,kk = .ints l:=by
  obtain⟨d,_,hc⟩:=Ja ko
  rcases hc with⟨k,_,rfl⟩|⟨_,rfl⟩|⟨_,rfl⟩|⟨_,l,_,rfl,_⟩
  ·exact .inl (.inr (.inr ⟨k,rfl⟩))
  ·exact .inl (.inl rfl)
  ·exact .inl (.inr (.inl rfl))
  ·exact .inr ⟨l,rfl⟩
 obtain⟨zv,sk,Co⟩:∃ zv,(zeroValue e).run P w = .ok zv w∧eW c w zv z:=by
  unfold AE at hz
  cases hi:P.info? e with
  | none=>simp[hi]at hz
  | some i=>
   simp only[hi,Option.bind_some]at hz
   cases xU:i.zero with
   | none=>simp[xU]at hz
   | some zv=>
    simp only[xU,Option.bind_some]at hz
    exact⟨zv,by simp[zeroValue,run_typeInfo hi,xU],ME hz⟩
 unfold L5 at ho
 split at ho
 ·rename_i v0 kv BX
  split at ho
  ·rename_i nj es oh
   split at ho
   ·rename_i iJ
    obtain⟨rfl,rh⟩:=iJ
    have hv:=LM h2 BX
    subst hv
    cases h1 with
    | gF _ L e9 gI=>
     have gD:=h.ob v0 _ (qH oh)
     simp only[Ob.gen]at gD
     rw[e9]at gD
     simp only[gq]at gD
     obtain⟨_,qd,arr,clock,hm,jj⟩:=gD
     have BM:=L7 jj qd
     have xD:=run_findKey ko rh arr.toList BM w
     have xC:=run_checkKey (w:=w) ko false rh
     have s7:(getObj L.b).run P w = .ok (.map arr clock) w:=by simp[getObj,Sem.run,hm]
     have BW:∀ y',∀ x∈lK es v y',nj.has x.1=true:=fun y' x hx=>by
      rcases RW x hx with h|rfl
      ·exact qd x h
      ·exact rh
     have kn:∀ (j:Nat) (e:MapEntry) (x:Value×D),arr.toList[j]? = some e→es[j]? = some x→e.key=x.1∧eW c w e.val x.2:=fun j e x he hx=>let ⟨a,b,_⟩:=jj.2.1 j e x (by simpa using he) hx;⟨a,b⟩
     have hlen:arr.toList.length=es.length:=by simpa using jj.1
     rcases RV (c:=c) (w:=w) v arr.toList es 0 hlen kn with⟨g1,g2⟩|⟨j0,Jb,d0,g1,g2,g3⟩
     ·rw[g2]at ho
      cases ho
      rcases BC (c:=c) (w:=w) v arr.toList es 0 hlen kn with⟨f1,f2,f3⟩|⟨j,val,d,f1,f2,_⟩
      ·have gK:(Instr.mapEntry t (.map (some L.b)) v).run P w = .ok (.tuple #[zv,goInt clock]) { w with heap:=w.heap.setIfInBounds L.b (.map (arr.push { key:=v,val:=zv,born:=clock }) (clock+1)) }:=by
        simp only[Instr.mapEntry,Sem.run_bind,run_underlying hu,Result.andThen_ok,s7,xC,xD,f1,sk]
        simp[setObj,Sem.run,hm]
       obtain⟨m1,m2⟩:=wI h (qH oh) rfl rfl rfl e9 gI (.map (arr.push { key:=v,val:=zv,born:=clock }) (clock+1)) (ob':=.map nj (lK es v z)) (by
        intro w' oW hr
        simp only[gq]
        refine⟨gI,BW z,_,_,oW,?_⟩
        rw[f3]
        refine⟨by simp[jj.1],fun i e x he hx=>?_,by simp[jj.2.2]⟩
        rw[dH]at he
        split at he
        ·rename_i hi
         cases he
         rw[ao (by rw[hi,jj.1];exact Nat.le_refl _),hi,jj.1]at hx
         simp at hx
         subst hx
         exact⟨rfl,hr _ _ Co,by rw[hi,jj.1,jj.2.2]⟩
        ·have hi:i<es.length:=by rw[← jj.1];exact(aK.1 he).1
         rw[ag hi]at hx
         obtain⟨p,q,r⟩:=jj.2.1 i e x he hx
         exact⟨p,hr _ _ q,r⟩)
       refine⟨_,_,gK,_,_,c,⟨rfl,rfl⟩,m1,.tup [zv,goInt clock] _ rfl (fun i v d hv hd=>?_),m2⟩
       match i,hv,hd with
       | 0,hv,hd=>cases hv;cases hd;exact Co.ox h.toHeapOK m2
       | 1,hv,hd=>cases hv;cases hd;rw[jj.2.2];exact .val _
      ·rw[g1]at f1;cases f1
     ·rw[g2]at ho
      cases ho
      rcases BC (c:=c) (w:=w) v arr.toList es 0 hlen kn with⟨f1,f2,f3⟩|⟨j,val,d,f1,f2,_,f4,f5,e',f6,f7⟩
      ·rw[g1]at f1;cases f1
      ·have BV:0+j0=0+j∧Jb=val:=by
        rw[g1]at f1
        simp only[ak,c8]at f1
        exact f1
       obtain⟨BV,rfl⟩:=BV
       have BV:j0=j:=by omega
       subst BV
       have mP:j0<arr.size:=by simpa using f4
       have xI:arr[j0]? = some e':=by simpa using f6
       have KZ:nj.has e'.key=true:=BM e' (aM f6)
       have Lq:(Instr.keyThatStays e'.key v).run P w = .ok v w:=by
        simp[Instr.keyThatStays,Td Lf rh KZ f7]
       have QA:j0<es.length:=by rw[← jj.1];exact mP
       have uw:e'.val=Jb∧e'.born=j0:=by
        refine⟨?_,(jj.2.1 j0 e' es[j0] xI (by simp[QA])).2.2⟩
        exact PL (kv:=v) (i:=0) f1 f6
       have gK:(Instr.mapEntry t (.map (some L.b)) v).run P w = .ok (.tuple #[Jb,goInt (j0:Nat)]) { w with heap:=w.heap.setIfInBounds L.b (.map (arr.modify j0 fun e=>{ e with key:=v }) clock) }:=by
        simp only[Instr.mapEntry,Sem.run_bind,run_underlying hu,Result.andThen_ok,s7,xC,xD,f1,aR,xI,aH,aL,Lq,uw.2]
        simp[setObj,Sem.run,hm]
       obtain⟨m1,m2⟩:=wI h (qH oh) rfl rfl rfl e9 gI (.map (arr.modify j0 fun e=>{ e with key:=v }) clock) (ob':=.map nj (lK es v d0)) (by
        intro w' oW hr
        simp only[gq]
        refine⟨gI,BW d0,_,_,oW,?_⟩
        rw[f5]
        refine⟨by simp[jj.1],fun i e x he hx=>?_,by simp[jj.2.2]⟩
        rw[bk]at he
        rw[bA]at hx
        split at he
        ·rename_i hi
         subst hi
         rw[if_pos rfl,if_pos QA]at hx
         simp only[aj]at he
         obtain⟨e0,h0,rfl⟩:=he
         cases hx
         rw[xI]at h0
         cases h0
         exact⟨rfl,hr _ _ (by rw[uw.1];exact g3),uw.2⟩
        ·rename_i hi
         rw[if_neg hi]at hx
         obtain⟨p,q,r⟩:=jj.2.1 i e x he hx
         exact⟨p,hr _ _ q,r⟩)
       refine⟨_,_,gK,_,_,c,⟨rfl,rfl⟩,m1,.tup [Jb,goInt (j0:Nat)] _ rfl (fun i v d hv hd=>?_),m2⟩
       match i,hv,hd with
       | 0,hv,hd=>cases hv;cases hd;exact g3.ox h.toHeapOK m2
       | 1,hv,hd=>cases hv;cases hd;rw[aR];exact .val _
   ·cases ho
  ·cases ho
 ·cases ho
def aez(h:fr G c H w){al:Al}{t:TypeId}{m s x d:D}{δ:Dl}{u v vy:Value}(h1:eW c w u m)(h2:eW c w v s)(h3:eW c w vy x)
  (ho:JR m s x H=some (d,δ)):∃ w',(Instr.entryStore t u v vy).run P w = .ok () w'∧iB G c H w (KO H al d δ) undef w':=by
 unfold JR at ho
 split at ho
 ·rename_i v0 n
  split at ho
  ·rename_i kk es oh
   split at ho
   ·rename_i kx dx hg
    split at ho
    ·rename_i hn
     cases ho
     cases h2
     cases h1 with
     | gF _ L e9 gI=>
      have gD:=h.ob v0 _ (qH oh)
      simp only[Ob.gen]at gD
      rw[e9]at gD
      simp only[gq]at gD
      obtain⟨_,qd,arr,clock,hm,jj⟩:=gD
      have vN:n.toNat<es.length:=(af.1 hg).1
      have QJ:n.toNat<arr.size:=by rw[jj.1];exact vN
      have XK:arr.findIdx? (fun e=>(e.born:Int) == n)=some n.toNat:=by
       rw[Array.findIdx?_eq_some_iff_getElem]
       refine⟨QJ,?_,fun j hj=>?_⟩
       ·have:=(jj.2.1 n.toNat arr[n.toNat] es[n.toNat] (by simp[QJ]) (by simp[vN])).2.2
        rw[this]
        have e:((n.toNat:Nat):Int)=n:=bN hn
        rw[e]
        simp
       ·have mP:j<es.length:=by omega
        have:=(jj.2.1 j arr[j] es[j] (by simp) (by simp[mP])).2.2
        rw[this]
        simp
        omega
      have s7:(getObj L.b).run P w = .ok (.map arr clock) w:=by simp[getObj,Sem.run,hm]
      have KA:(asInt (.int .i64 n)).run P w = .ok n w:=by simp[asInt,asIntOf]
      have gK:(Instr.entryStore t (.map (some L.b)) (.int .i64 n) vy).run P w = .ok () { w with heap:=w.heap.setIfInBounds L.b (.map (arr.modify n.toNat fun e=>{ e with val:=vy }) clock) }:=by
       simp only[Instr.entryStore,Sem.run_bind,Result.andThen_ok,s7,KA,XK]
       simp[setObj,Sem.run,hm]
      obtain⟨m1,m2⟩:=wI h (qH oh) rfl rfl rfl e9 gI (.map (arr.modify n.toNat fun e=>{ e with val:=vy }) clock) (ob':=.map kk (es.set n.toNat (kx,x))) (by
       intro w' oW hr
       simp only[gq]
       refine⟨gI,fun y hy=>?_,_,_,oW,?_⟩
       ·rcases ef hy with hy|rfl
        ·exact qd y hy
        ·exact qd (kx,dx) (aM hg)
       refine⟨by simp[jj.1],fun i e y he hy=>?_,by simp[jj.2.2]⟩
       rw[bk]at he
       rw[bA]at hy
       split at he
       ·rename_i hi
        subst hi
        rw[if_pos rfl,if_pos vN]at hy
        cases hy
        simp only[aj]at he
        obtain⟨e0,h0,rfl⟩:=he
        obtain⟨p,q,r⟩:=jj.2.1 _ e0 _ h0 hg
        exact⟨p,hr _ _ h3,r⟩
       ·rename_i hi
        rw[if_neg hi]at hy
        obtain⟨p,q,r⟩:=jj.2.1 i e y he hy
        exact⟨p,hr _ _ q,r⟩)
      exact⟨_,gK,_,_,c,⟨rfl,rfl⟩,m1,.any _,m2⟩
    ·cases ho
   ·cases ho
  ·cases ho
 ·cases ho
def agj(h:fr G c H w)(he:kb c w env a){al:Al}(gu:l5 H al){o:Oper}{io:ij}(hc:p5 P G o=some io){d:D}{δ:Dl}(hk:lu env H al.1 io=some (d,δ)) :
  ∃ v w',y5 ((execOp a.eval o).run P w) v w'∧iB G c H w (KO H al d δ) v w':=by
 have plain:∀ {v:Value} {d:D},eW c w v d→iB G c H w (KO H al d .no) v w:=fun hr=>⟨_,_,c,⟨rfl,rfl⟩,h,hr,Step.refl _ _ _ _⟩
 unfold p5 at hc
 split at hc
 ·rename_i t x y ty ho
  split at hc
  ·rename_i iJ
   simp only[aj]at hc
   obtain⟨X,hX,rfl⟩:=hc
   have hy:y = .const (.slice none 0 0):=by
    have:=iJ.2
    unfold GK at this
    split at this
    ·rfl
    ·cases this
   subst hy
   obtain⟨mQ,rfl⟩:=lq hk
   obtain⟨r,h1,h2⟩:=Sn h iJ.1 (ia h he hX) mQ x (.const (.slice none 0 0))
   exact⟨r,w,by simp only[execOp,ho];exact iX h1,plain h2⟩
  ·cases hc
 ·rename_i t x y ty ho
  split at hc
  ·rename_i iJ
   simp only[aj]at hc
   obtain⟨X,hX,rfl⟩:=hc
   have hy:y = .const (.slice none 0 0):=by
    have:=iJ.2
    unfold GK at this
    split at this
    ·rfl
    ·cases this
   subst hy
   obtain⟨mQ,rfl⟩:=lq hk
   obtain⟨r,h1,h2⟩:=Sn h iJ.1 (ia h he hX) mQ x (.const (.slice none 0 0))
   exact⟨r,w,by simp only[execOp,ho];exact iX h1,plain h2⟩
  ·cases hc
 ·rename_i t x ho
  split at hc
  ·rename_i X hu hX
   cases hc
   simp only[lu]at hk
   split at hk
   ·rename_i s hs
    cases hk
    have hr:=ia h he hX
    rw[hs]at hr
    generalize LB:a.eval x=u at hr
    cases hr
    obtain⟨k1,k2,k3⟩:=Ii h gu (.stringIter s 0) (.qn s 0) rfl rfl (fun _ hb=>by simp only[gq];exact⟨trivial,trivial,hb⟩)
    refine⟨_,_,by simp only[execOp,ho,LB];exact iX (v:=.pointer (some ⟨w.heap.size,0,none⟩)) (w':=w.alloc (.stringIter s 0)) (by simp[Instr.range,run_underlying hu]),_,_,_,⟨rfl,rfl⟩,k1,k2,k3⟩
   ·cases hk
  ·rename_i k e X hu hX
   cases hc
   obtain⟨r,w',h1,h2⟩:=aeS (P:=P) h gu hu (ia h he hX) hk
   exact⟨r,w',by simp only[execOp,ho];exact iX h1,h2⟩
  ·cases hc
 ·rename_i x ho
  simp only[aj]at hc
  obtain⟨X,hX,rfl⟩:=hc
  obtain⟨r,w',h1,h2⟩:=aeP (P:=P) (ty:=o.type) h (ia h he hX) hk
  exact⟨r,w',by simp only[execOp,ho];exact iX h1,h2⟩
 ·simp only[aj]at hc
  obtain⟨X,hX,rfl⟩:=hc
  cases hk
 ·rename_i x ho
  simp only[aj]at hc
  obtain⟨X,hX,rfl⟩:=hc
  obtain⟨mQ,rfl⟩:=lq hk
  obtain⟨r,h1,h2⟩:=aeA (P:=P) h (ia h he hX) mQ
  exact⟨r,w,by simp only[execOp,ho];exact iX h1,plain h2⟩
 ·rename_i cl ho
  split at hc
  ·rename_i t x jn kf qw
   split at hc
   ·rename_i fm
    simp only[aj]at hc
    obtain⟨X,hX,rfl⟩:=hc
    have qx:cl.argTypes = #[t]:=by rw[← bE (xs:=cl.argTypes),kf]
    have BN:cl.args = #[x]:=by rw[← bE (xs:=cl.args),qw]
    have hr:=ia h he hX
    simp only[lu]at hk
    split at hk
    ·rename_i oT
     cases hk
     rw[oT]at hr
     generalize LB:a.eval x=u at hr
     cases hr
     have Lv:∃ e,P.underlying t=some (.slice e):=by
      unfold Aq at fm
      split at fm
      ·exact⟨_,by assumption⟩
      ·cases fm
     obtain⟨e,hu⟩:=Lv
     refine⟨.int .i64 0,w,by rw[tz ho jn,qx,BN];exact iX (by simp[LB,Builtin.cap_,run_underlying hu,goInt]),plain (.val _)⟩
    ·cases hk
   ·cases hc
  ·rename_i t x jn kf qw
   have qx:cl.argTypes = #[t]:=by rw[← bE (xs:=cl.argTypes),kf]
   have BN:cl.args = #[x]:=by rw[← bE (xs:=cl.args),qw]
   split at hc
   ·rename_i e hu
    split at hc
    ·rename_i z i X hz hi hX
     split at hc
     ·rename_i iJ
      cases hc
      obtain⟨w',h1,h2⟩:=aew (P:=P) (al:=al) (ty:=o.type) h hu hi hz iJ.1 iJ.2 (ia h he hX) hk
      exact⟨_,w',by rw[tz ho jn,qx,BN];exact iX (by simpa using h1),h2⟩
     ·cases hc
    ·cases hc
   ·cases hc
  ·rename_i t u x y jn kf qw
   have qx:cl.argTypes = #[t,u]:=by rw[← bE (xs:=cl.argTypes),kf]
   have BN:cl.args = #[x,y]:=by rw[← bE (xs:=cl.args),qw]
   split at hc
   ·rename_i e hu YG
    split at hc
    ·rename_i z i X Y hz hi hX hY
     split at hc
     ·rename_i iJ
      cases hc
      obtain⟨r,w',h1,h2⟩:=aeo (P:=P) (ty:=o.type) h gu hu YG hi hz iJ.1 iJ.2 (ia h he hX) (ia h he hY) hk
      exact⟨r,w',by rw[tz ho jn,qx,BN];exact iX (by simpa using h1),h2⟩
     ·cases hc
    ·cases hc
   ·cases hc
  ·cases hc
 ·rename_i t m k ho
  split at hc
  ·rename_i kt e hu
   split at hc
   ·rename_i kk z X Y ko hz hX hY
    cases hc
    obtain⟨r,w',h1,h2⟩:=aeL (P:=P) (al:=al) h hu ko hz (ia h he hX) (ia h he hY) hk
    exact⟨r,w',by simp only[execOp,ho];exact iX h1,h2⟩
   ·cases hc
  ·cases hc
 ·rename_i t m s x ho
  split at hc
  ·rename_i X Y Z hX hY hZ
   cases hc
   obtain⟨w',h1,h2⟩:=aez (P:=P) (al:=al) (t:=t) h (ia h he hX) (ia h he hY) (ia h he hZ) hk
   exact⟨_,w',by simp only[execOp,ho];exact DE h1,h2⟩
  ·cases hc
 ·cases hc
end
end Go.AL
namespace Go.AL
open Go
abbrev FW(ro:Option Nat):Fence:={ Fence.wide with round:=ro }
def Bg{ro:Option Nat}{n:Nat}{P:Program}{f:FuncId}{args:Array Value}{w:World}{R:Ending→World→Prop}:CallsIn (FW ro) n P f args w R↔Calls P f args w R:=
 callsIn_wide (n:=n)
inductive pE(c:Ctx):List Nat→List Deferred→Prop
 | nil:pE c [] []
 | cons {v:Nat} {vs:List Nat} {ds:List Deferred} (L:Loc) (h1:c.ι v 0=some L) (h2:L.jc=false) (h:pE c vs ds):pE c (v::vs) ({ target:=.collected L.b,args:=#[] }::ds)
def pE.mono{c c':Ctx}(e9:∀ v L,c.ι v 0=some L→c'.ι v 0=some L){vs:List Nat}{ds:List Deferred}(h:pE c vs ds):pE c' vs ds:=by
 induction h with
 | nil=>exact .nil
 | cons L h1 h2 _ ih=>exact .cons L (e9 _ _ h1) h2 ih
structure kz(G:GT)(N:Nat)(c:Ctx)(w:World)(s:St)(a:Act):Prop where
 eZ:fr G c s.H w
 env:kb c w s.env.get a
 size:N≤a.tmps.size
 marks:pE c s.marks a.defers
def qt(N:Nat):Option Tmp→Bool
 | some d=>decide (d<N)
 | none=>true
def JI(P:Program)(G:GT)(o:Oper):Option ij:=match ml P G o with
 | some op=>some op
 | none=>p5 P G o
def sT(P:Program)(G:GT)(N:Nat)(ops:Array Oper)(o:Oper):Option ff:=
 match JI P G o with
 | none=>none
 | some op=>if qt N o.dst=true then(match o.guard with
   | none=>some ⟨o.dst,op,none⟩
   | some (j,want)=>match (ops[j]?).bind (·.dst)with
    | some t=>some ⟨o.dst,op,some (t,want)⟩
    | none=>none)else none
def n9(P:Program)(G:GT)(N:Nat)(ops:Array Oper):List Oper→Option (List ff)
 | []=>some []
 | o::r=>match sT P G N ops o,n9 P G N ops r with
  | some e,some l=>some (e::l)
  | _,_=>none
section
variable{P:Program}{G:GT}{c:Ctx}{w:World}{env:gd}{a:Act}{N:Nat}
def afi{env:Env}{a:Act}{c:Ctx}{w:World}(he:kb c w env.get a)(hN:N≤a.tmps.size){dst:Option Tmp}(hd:qt N dst=true){v:Value}{d:D}(hr:eW c w v d) :
  kb c w (put env dst d).get (a.put dst v):=by
 cases dst with
 | none=>exact he
 | some t=>
  have ht:t<a.tmps.size:=aJ (by simpa[qt]using hd) hN
  intro k
  simp only[put,Env.sZ,Act.put]
  split
  ·rename_i e
   subst e
   have:(a.tmps.setIfInBounds t v).getD t undef=v:=by simp[Array.getD,ht]
   rw[this];exact hr
  ·rename_i e
   have:(a.tmps.setIfInBounds t v).getD k undef=a.tmps.getD k undef:=by
    simp only[bJ,bB e]
   rw[this];exact he k
def SE{a:Act}{dst:Option Tmp}{v:Value}:(a.put dst v).tmps.size=a.tmps.size:=by
 cases dst<;>simp[Act.put]
def put_defers{a:Act}{dst:Option Tmp}{v:Value}:(a.put dst v).defers=a.defers:=by
 cases dst<;>rfl
def kb.carry{c c':Ctx}{w w':World}(h:∀ v d,eW c w v d→eW c' w' v d)(he:kb c w env a):kb c' w' env a:=fun k=>h _ _ (he k)
def kz.next{c':Ctx}{w':World}{H':U}{s:St}(hs:kz G N c w s a)(eZ:fr G c' H' w')(fm:Step s.H.length c s.H w c' H' w'){dst:Option Tmp}(hd:qt N dst=true)
  {v:Value} {d:D} (hr:eW c' w' v d):kz G N c' w' { s with env:=put s.env dst d,H:=H' } (a.put dst v) where
 eZ:=eZ
 env:=afi (hs.env.carry fun _ _ h=>h.ox hs.eZ.toHeapOK fm) hs.size hd hr
 size:=by rw[SE];exact hs.size
 marks:=by
  rw[put_defers]
  refine hs.marks.mono fun v L h=>fm.old v 0 L ?_ h
  rcases a8 v s.H.length with h'|h'
  ·exact h'
  ·rw[hs.eZ.out v 0 h']at h;cases h
theorem rF(he:kb c w env a){ops:Array Oper}{o:Oper}{g:Option (Nat×Bool)}(hg:match o.guard with
   | none=>g=none
   | some (j,want)=>∃ t,(ops[j]?).bind (·.dst)=some t∧g=some (t,want)) {b:Bool} (h:guardOf env g=some b):Region.wanted o (yielded ops a.tmps)=b:=by
 unfold Region.wanted
 split at hg
 ·rename_i Hx
  subst hg
  simp only[guardOf,ak]at h
  simp[Hx,h]
 ·rename_i j want Hx
  obtain⟨t,ht,rfl⟩:=hg
  simp only[guardOf]at h
  split at h
  ·rename_i x hx
   cases h
   have hr:=he t
   rw[hx]at hr
   generalize hv:a.tmps.getD t undef=v at hr
   cases hr
   have iw:a.tmps[t]? = some (.bool x):=by
    rw[bJ]at hv
    cases hq:a.tmps[t]? with
    | none=>rw[hq]at hv;simp[undef]at hv
    | some q=>rw[hq]at hv;simpa using hv
   simp only[Hx,yielded,ht,Option.bind_some,iw]
   cases x<;>cases want<;>rfl
  ·rename_i vs hx
   cases h
   have hr:=he t
   rw[hx]at hr
   generalize hv:a.tmps.getD t undef=v at hr
   cases hr
   have iw:a.tmps[t]? = some (.tuple vs)∨a.tmps[t]? = none:=by
    rw[bJ]at hv
    cases hq:a.tmps[t]? with
    | none=>exact .inr rfl
    | some q=>rw[hq]at hv;exact .inl (by simpa using hv)
   rcases iw with iw|iw<;>simp only[Hx,yielded,ht,Option.bind_some,iw]<;>cases want<;>rfl
  ·cases h
def O4{o:Oper}{op:ij}(h:JI P G o=some op):ml P G o=some op∨p5 P G o=some op:=by
 unfold JI at h
 split at h
 ·cases h;exact .inl (by assumption)
 ·exact .inr h
def O1{o:Oper}{io:ij}(hc:ml P G o=some io∨p5 P G o=some io){f:gd}{H:U}{n:Nat}{r:D×Dl}(h:fO f H n io=some r):ml P G o=some io:=by
 refine hc.resolve_right fun h2=>?_
 rw[agv (JJ h2)]at h
 cases h
def Bl{o:Oper}{io:ij}(hc:ml P G o=some io∨p5 P G o=some io){f:gd}{r:FuncId×List D}(h:jN f io=some r):ml P G o=some io:=by
 refine hc.resolve_right fun h2=>?_
 rw[agw (JJ h2)]at h
 cases h
def vt{ops:Array Oper}{o:Oper}{e:ff}(h:sT P G N ops o=some e) :
  (ml P G o=some e.op∨p5 P G o=some e.op)∧e.dst=o.dst∧(qt N o.dst=true)∧(match o.guard with
   | none=>e.guard=none
   | some (j,want)=>∃ t,(ops[j]?).bind (·.dst)=some t∧e.guard=some (t,want)):=by
 unfold sT at h
 split at h
 ·cases h
 ·rename_i op gW
  split at h
  ·rename_i hd
   split at h
   ·rename_i hg
    cases h
    exact⟨O4 gW,rfl,hd,by simp[hg]⟩
   ·rename_i j want hg
    split at h
    ·rename_i t ht
     cases h
     exact⟨O4 gW,rfl,hd,t,ht,rfl⟩
    ·cases h
  ·cases h
def yg{o:Oper}{io:ij}(h:ml P G o=some io):∀ c,o.op≠.defer c:=by
 intro c hc
 simp[ml,hc]at h
def Sb{o:Oper}{io:ij}(h:p5 P G o=some io):∀ c,o.op≠.defer c:=by
 intro c hc
 simp[p5,hc]at h
def agX{ro:Option Nat}{n:Nat}{o:Oper}{s:St}{io:ij}{d:D}{δ:Dl}{next:Act→World→Prop}{Q:Exit→Act→World→Prop}(hs:kz G N c w s a)(hc:p5 P G o=some io)
  (hd:qt N o.dst=true) {al:Al} (gu:l5 s.H al) (h:lu s.env.get s.H al.1 io=some (d,δ))
  (k:∀ c' w' a',kz G N c' w' { s with env:=put s.env o.dst d,H:=δ.app s.H al } a'→Step s.H.length c s.H w c' (δ.app s.H al) w'→next a' w'):o.wpIn (FW ro) n P a w next Q:=by
 obtain⟨v,w',hy,d',H',c',⟨rfl,rfl⟩,eZ,hr,fm⟩:=agj (P:=P) hs.eZ hs.env gu hc h
 refine⟨fun _ _=>trivial,?_⟩
 rw[Oper.semAt_plain (FW ro) a.eval o (Sb hc)]
 have hn:=k c' w' (a.put o.dst v) (hs.next eZ fm hd hr) fm
 rcases hy with hy|⟨hy,rfl⟩
 ·rw[hy];exact hn
 ·rw[hy];exact hn
def agU{ro:Option Nat}{n:Nat}{o:Oper}{s:St}{x:X}{next:Act→World→Prop}{Q:Exit→Act→World→Prop}(hs:kz G N c w s a)(hc:p5 P G o=some (.nextM x))
  (hd:qt N o.dst=true) {v m since:Nat} {seen:List Nat} {kk:KK} {es:List (Value×D)} (hx:ev s.env.get x = .ptr v 0 0) (hv:s.H[v]? = some (.lL (.gF m) since seen)) (hm:s.H[m]? = some (.map kk es)) (pL:es.length=since)
  (k0:(∀ i,i<es.length→i∈seen)→∀ c' w' a',kz G N c' w' { s with env:=put s.env o.dst (.tup [.b false]) } a'→Step s.H.length c s.H w c' s.H w'→next a' w')
  (k1:∀ i k d,es[i]? = some (k,d)→i ∉ seen→∀ c' w' a',kz G N c' w' { s with env:=put s.env o.dst (.tup [.b true,ru k,d]),H:=s.H.set v (.lL (.gF m) since (seen ++ [i])) } a' →
   Step s.H.length c s.H w c' (s.H.set v (.lL (.gF m) since (seen ++ [i]))) w'→next a' w'):o.wpIn (FW ro) n P a w next Q:=by
 have gW:∃ y,o.op = .next y false∧cX G y=some x:=by
  unfold p5 at hc
  repeat' split at hc
  all_goals first|(cases hc;done)|(simp only[aj]at hc;obtain⟨_,_,hh⟩:=hc;cases hh;done)|skip
  simp only[aj]at hc
  obtain⟨X,hX,hh⟩:=hc
  cases hh
  exact⟨_,by assumption,hX⟩
 obtain⟨y,ho,hX⟩:=gW
 have hr:=ia hs.eZ hs.env hX
 rw[hx]at hr
 generalize hu:a.eval y=u at hr
 cases hr with
 | ptr _ _ _ L e9 gI=>
  have gD:=hs.eZ.ob v _ hv
  simp only[Ob.gen]at gD
  rw[e9]at gD
  simp only[gq]at gD
  obtain⟨_,vI,bm,zR,hblk⟩:=gD
  cases zR with
  | gF _ Lm xV HS=>
   have qe:=hs.eZ.ob m _ hm
   simp only[Ob.gen]at qe
   rw[xV]at qe
   simp only[gq]at qe
   obtain⟨_,qd,arr,clock,B5,gV,kn,BP⟩:=qe
   have pf:clock=since:=by rw[BP,pL]
   subst pf
   refine⟨fun _ _=>trivial,?_⟩
   rw[Oper.semAt_plain (FW ro) a.eval o (Sb hc)]
   have KE:∀ e∈arr.toList,e.born<clock:=by
    intro e he
    obtain⟨i,hi⟩:=aG.1 he
    have s8:i<es.length:=by rw[← gV];have:=(af.1 hi).1;simpa using this
    have:=(kn i e es[i] (by simpa using hi) (by simp[s8])).2.2
    omega
   have Q5:=next_test_false seen.toArray arr clock clock KE (Nat.le_refl _)
   have hold:(leftOf arr seen.toArray).filter (fun e=>decide (e.born<clock))=leftOf arr seen.toArray:=by
    apply Array.filter_eq_self.2
    intro e he
    simp only[decide_eq_true_eq]
    exact KE e (by simpa using (dz.1 he).1)
   have lS:(leftOf arr seen.toArray).filter (fun e=>decide (e.born≥clock)) = #[]:=by
    apply Array.filter_eq_empty_iff.2
    intro e he
    have:=KE e (by simpa using (dz.1 he).1)
    simp;omega
   have Qv:∀ w1:World,w1.heap=w.heap→(getObj L.b).run P w1 = .ok (.mapIter (some Lm.b) clock seen.toArray clock) w1:=fun w1 h1=>by simp[getObj,Sem.run,h1,hblk]
   have Qw:∀ w1:World,w1.heap=w.heap→(getObj Lm.b).run P w1 = .ok (.map arr clock) w1:=fun w1 h1=>by simp[getObj,Sem.run,h1,B5]
   have oU:∀ e,e∈(leftOf arr seen.toArray).toList→∃ i k d,es[i]? = some (k,d)∧i ∉ seen∧e.key=k∧eW c w e.val d∧e.born=i:=by
    intro e he
    have s6:e∈arr∧(!seen.toArray.contains e.born)=true:=by
     have:=dz.1 (show e∈leftOf arr seen.toArray by simpa using he)
     exact this
    obtain⟨i,hi⟩:=aG.1 (show e∈arr.toList by simpa using s6.1)
    have s8:i<es.length:=by rw[← gV];have:=(af.1 hi).1;simpa using this
    obtain⟨q1,q2,q3⟩:=kn i e es[i] (by simpa using hi) (by simp[s8])
    refine⟨i,es[i].1,es[i].2,by simp[s8],?_,q1,q2,q3⟩
    have:=s6.2
    rw[q3]at this
    simpa using this
   by_cases lI:(leftOf arr seen.toArray) = #[]
   ·have gK:(execOp a.eval o).run P w = .ok (.value (.tuple #[.bool false])) w:=by
     have h2:(Instr.next (.pointer (some ⟨L.b,0,none⟩)) false o.type).run P w = .ok (.tuple #[.bool false]) w:=by
      have B0:(arr.filter fun e => !(seen.toArray).contains e.born) = #[]:=lI
      simp only[Instr.next,Sem.run_bind,Qv w rfl,Result.andThen_ok,Qw w rfl,Q5,br,if_false,Sem.run_pure,B0]
      simp[choose,Sem.run,Question.forced]
     simp only[execOp,ho,hu]
     rw[vI]
     simp[h2]
    rw[gK]
    refine k0 (fun i hi=>?_) c w _ (hs.next hs.eZ (Step.refl _ _ _ _) hd (.tup [.bool false] _ rfl fun j v d hv hd=>?_)) (Step.refl _ _ _ _)
    ·by_cases fM:i∈seen
     ·exact fM
     ·exfalso
      have xF:i<arr.size:=by omega
      have Xr:=(kn i arr[i] es[i] (by simp[xF]) (by simp[hi])).2.2
      have:arr[i]∈leftOf arr seen.toArray:=by
       refine dz.2 ⟨Array.getElem_mem _,?_⟩
       rw[Xr];simpa using fM
      rw[lI]at this
      simp at this
    ·match j,hv,hd with
     | 0,hv,hd=>cases hv;cases hd;exact .val _
   ·have gE:(leftOf arr seen.toArray).isEmpty=false:=by
     cases hq:(leftOf arr seen.toArray).isEmpty with
     | false=>rfl
     | true=>exact absurd (Array.isEmpty_iff.1 hq) lI
    have jQ:0<(leftOf arr seen.toArray).size:=by
     rcases dS (leftOf arr seen.toArray).size with h|h
     ·exact absurd (Array.eq_empty_of_size_eq_zero h) lI
     ·exact h
    have KG:∃ (i:Nat) (w1:World),i<(leftOf arr seen.toArray).size∧jz w w1∧w1.heap=w.heap∧(choose (.mapNext (leftOf arr seen.toArray).size)).run P w = .ok i w1:=by
     by_cases hf:(Question.mapNext (leftOf arr seen.toArray).size).forced=true
     ·exact⟨0,w,jQ,jz.refl w,rfl,by simp[choose,Sem.run,hf]⟩
     ·exact⟨w.tape w.drawn (.mapNext (leftOf arr seen.toArray).size) % (leftOf arr seen.toArray).size,{ w with drawn:=w.drawn+1 },Nat.mod_lt _ jQ,jz.drew w,rfl,by simp[choose,Sem.run,hf,Question.cut]⟩
    obtain⟨i,w1,hi,Qx,XR,Xy⟩:=KG
    obtain⟨i',k,d,h1,h2,h3,h4,h5⟩:=oU (leftOf arr seen.toArray)[i] (by simp)
    have xP:=hs.eZ.oD Qx
    obtain⟨m1,m2⟩:=wI xP hv rfl rfl (ob':=.lL (.gF m) clock (seen ++ [i'])) rfl e9 gI (.mapIter (some Lm.b) clock (seen ++ [i']).toArray clock) (fun w' oW se=>by
     simp only[gq]
     exact⟨gI,vI,Lm.b,.gF m Lm xV HS,oW⟩)
    have fm:Step s.H.length c s.H w c (s.H.set v (.lL (.gF m) clock (seen ++ [i']))) { w1 with heap:=w1.heap.setIfInBounds L.b (.mapIter (some Lm.b) clock (seen ++ [i']).toArray clock) }:=(Au _ Qx).trans m2 (Nat.le_refl _)
    have gK:(execOp a.eval o).run P w = .ok (.value (.tuple #[.bool true,k,(leftOf arr seen.toArray)[i].val])) { w1 with heap:=w1.heap.setIfInBounds L.b (.mapIter (some Lm.b) clock (seen ++ [i']).toArray clock) }:=by
     have sf:(setObj L.b (.mapIter (some Lm.b) clock (seen ++ [i']).toArray clock)).run P w1 = .ok () { w1 with heap:=w1.heap.setIfInBounds L.b (.mapIter (some Lm.b) clock (seen ++ [i']).toArray clock) }:=by
      simp[setObj,Sem.run,XR,hblk]
     have h2:(Instr.next (.pointer (some ⟨L.b,0,none⟩)) false o.type).run P w = .ok (.tuple #[.bool true,k,(leftOf arr seen.toArray)[i].val]) { w1 with heap:=w1.heap.setIfInBounds L.b (.mapIter (some Lm.b) clock (seen ++ [i']).toArray clock) }:=by
      have B0:(arr.filter fun e => !(seen.toArray).contains e.born)=leftOf arr seen.toArray:=rfl
      have iL:((if (leftOf arr seen.toArray).isEmpty then #[none]else #[])++(leftOf arr seen.toArray ++ #[]).map some)=(leftOf arr seen.toArray).map some:=by simp[gE]
      simp only[Instr.next,Sem.run_bind,Qv w rfl,Result.andThen_ok,Qw w rfl,Q5,br,if_false,Sem.run_pure,B0,hold,lS,iL,Array.size_map,Xy]
      have XP:((leftOf arr seen.toArray).map some)[i]? = some (some (leftOf arr seen.toArray)[i]):=by simp[hi]
      simp only[XP,Sem.run_bind]
      rw[h5,show seen.toArray.push i'=(seen ++ [i']).toArray by simp,sf]
      simp[h3]
     simp only[execOp,ho,hu]
     rw[vI]
     simp[h2]
    rw[gK]
    refine k1 i' k d h1 h2 c _ _ (hs.next m1 fm hd (.tup [.bool true,k,(leftOf arr seen.toArray)[i].val] _ rfl fun j v d hv hd=>?_)) fm
    match j,hv,hd with
    | 0,hv,hd=>cases hv;cases hd;exact .val _
    | 1,hv,hd=>cases hv;cases hd;exact SP (qd _ (aM h1))
    | 2,hv,hd=>cases hv;cases hd;exact h4.ox hs.eZ.toHeapOK fm
def agV{ro:Option Nat}{n:Nat}{o:Oper}{s:St}{io:ij}{d:D}{δ:Dl}{next:Act→World→Prop}{Q:Exit→Act→World→Prop}(hs:kz G N c w s a)(hc:ml P G o=some io)
  (hd:qt N o.dst=true) {al:Al} (gu:l5 s.H al) (h:fO s.env.get s.H al.1 io=some (d,δ))
  (k:∀ c' w' a',kz G N c' w' { s with env:=put s.env o.dst d,H:=δ.app s.H al } a'→Step s.H.length c s.H w c' (δ.app s.H al) w'→next a' w'):o.wpIn (FW ro) n P a w next Q:=by
 obtain⟨v,w',hy,d',H',c',⟨rfl,rfl⟩,eZ,hr,fm⟩:=SB (P:=P) (K:=fun d' H'=>d'=d∧H'=δ.app s.H al) hs.eZ hs.env gu hc (Ox h ⟨rfl,rfl⟩)
 refine⟨fun _ _=>trivial,?_⟩
 rw[Oper.semAt_plain (FW ro) a.eval o (yg hc)]
 have hn:=k c' w' (a.put o.dst v) (hs.next eZ fm hd hr) fm
 rcases hy with hy|⟨hy,rfl⟩
 ·rw[hy];exact hn
 ·rw[hy];exact hn
end
end Go.AL
namespace Go.AL
open Go
section
variable{P:Program}{G:GT}{c:Ctx}{w:World}{env:gd}{a:Act}{N:Nat}
def O5{o:Oper}{io:ij}(hc:ml P G o=some io)(h:Cv io=true):∃ cl,o.op = .call cl:=by
 unfold ml at hc
 split at hc
 all_goals first|exact⟨_,by assumption⟩|skip
 all_goals exfalso
 all_goals try simp only[ax,ae,aF]at hc
 all_goals (repeat' first|(obtain⟨_,_,hc⟩:=hc)|split at hc|simp only[ae]at hc)
 all_goals first|(simp[Cv]at h;done)|(cases hc<;>simp[Cv]at h)
def IL{H:U}(eZ:fr G c H w)(he:kb c w env a){o:Oper}{io:ij}(hc:ml P G o=some io){f:FuncId}{args:List D}(jn:jN env io=some (f,args))(kn:p8 P f=true) :
  ∃ vs:List Value,(execOp a.eval o).run P w = .ok (.enter f vs.toArray) w∧iS c w vs args:=by
 have Hu:=hc
 unfold ml at hc
 cases ho:o.op with
 | call cl=>
  simp only[ho,ax,ae]at hc
  obtain⟨xs,qw,hc⟩:=hc
  have iy:=wZ eZ he cl.args.toList qw
  split at hc
  ·rename_i g xA
   split at hc
   ·have Xw:g=f∧List.map (ev env) xs=args:=by
     cases hc
     have hb:jN env (if G.nw g=true then ij.callN g xs else ij.call g xs)=some (g,xs.map (ev env)):=by split<;>rfl
     rw[hb]at jn
     simpa using jn
    obtain⟨rfl,rfl⟩:=Xw
    refine⟨_,?_,iy⟩
    have e:cl.args.map a.eval=(cl.args.toList.map a.eval).toArray:=by cases cl.args;simp
    simp only[execOp,ho,resolve,xA,Act.eval,Deferred.ofValue,Sem.run_bind,Sem.run_pure,Result.andThen_ok,invoke]
    rw[← e]
    have h2:=IM (P:=P) kn (cl.args.map a.eval) w
    simpa using h2
   ·cases hc
  ·rename_i x gE xA
   simp only[ae,aF,ak]at hc
   obtain⟨X,hX,rfl⟩:=hc
   simp only[jN]at jn
   split at jn
   ·rename_i k first cap oT
    cases jn
    have hr:=ia eZ he hX
    rw[oT]at hr
    generalize hv:a.eval x=v at hr
    cases hr with
    | fn _ fs cs _ _ e1 e2 e3 e4=>
     refine⟨fs++cl.args.toList.map a.eval++cs,?_,((iS.CT e1 e3).append iy).append (iS.CT e2 e4)⟩
     simp only[execOp,ho,resolve,xA,hv,Deferred.ofValue,Sem.run_bind,Sem.run_pure,Result.andThen_ok,invoke]
     have h2:=IM (P:=P) kn (fs.toArray++cl.args.map a.eval++cs.toArray) w
     have e2:fs.toArray++cl.args.map a.eval++cs.toArray=(fs++cl.args.toList.map a.eval++cs).toArray:=by cases cl.args;simp
     rw[e2]at h2 ⊢
     exact h2
   ·cases jn
  ·split at hc
   ·simp only[ae]at hc
    obtain⟨td,_,hc⟩:=hc
    split at hc
    ·simp only[ae]at hc
     obtain⟨i,_,z,_,ud,_,hc⟩:=hc
     split at hc
     ·split at hc
      ·cases hc;cases jn
      ·cases hc
     ·cases hc
    ·cases hc
   ·cases hc
  ·split at hc
   ·simp only[ae]at hc
    obtain⟨td,_,hc⟩:=hc
    split at hc
    ·simp only[ae]at hc
     obtain⟨ud,_,hc⟩:=hc
     split at hc
     ·simp only[ae]at hc
      obtain⟨n,_,hc⟩:=hc
      split at hc
      ·cases hc;cases jn
      ·cases hc
     ·cases hc
    ·cases hc
   ·cases hc
  ·split at hc
   ·split at hc
    ·cases hc;cases jn
    ·cases hc;cases jn
    ·cases hc;cases jn
    ·cases hc
   ·cases hc
  ·cases hc;cases jn
  ·cases hc;cases jn
  ·cases hc
 | _=>
  have h1:Cv io=true:=by unfold jN at jn;unfold Cv;split at jn<;>first|rfl|cases jn
  obtain⟨cl,h2⟩:=O5 Hu h1
  rw[ho]at h2
  cases h2
end
end Go.AL
namespace Go.AL
open Go
abbrev Fp:=Nat×Option (Nat×Nat)
def mh:D→List Fp
 | .eX v _ _ _ _=>[(v,none)]
 | .gF v=>[(v,none)]
 | _=>[]
def rM(n:Nat):D→List Fp
 | .ptr v _ o=>[(v,some (o,n))]
 | _=>[]
def fX(f:gd)(H:U):ij→List Fp
 | .ld1 x=>rM 1 (ev f x)
 | .ldN n x=>rM n (ev f x)
 | .st1 a _=>rM 1 (ev f a)
 | .stN n a _=>rM n (ev f a)
 | .lookup _ _ _ m _=>mh (ev f m)
 | .mapUpd _ m _ _=>mh (ev f m)
 | .len .map x=>mh (ev f x)
 | .b2s x=>mh (ev f x)
 | .slcArr sz n x _ _=>rM (n*sz) (ev f x)
 | .app _ _ _ x y=>mh (ev f x)++mh (ev f y)
 | .copy _ x y=>mh (ev f x)++mh (ev f y)
 | .call g args=>((args.map (ev f)).map (gX H 40)).flatten.map fun v=>(v,none)
 | .callN g args=>((args.map (ev f)).map (gX H 40)).flatten.map fun v=>(v,none)
 | .callv g args=>match jN f (.callv g args)with
  | some (_,ds)=>(ds.map (gX H 40)).flatten.map fun v=>(v,none)
  | none=>[]
 | _=>[]
def jm(n:Nat):Dl→List Fp
 | .no=>[]
 | .cells v o xs=>[(v,some (o,xs.length))]
 | .obj v _=>[(v,none)]
 | .new _=>[(n,none)]
def qZ:Fp→Fp→Bool
 | (v,none),(u,_)=>v != u
 | (v,some _),(u,none)=>v != u
 | (v,some (o,n)),(u,some (p,m))=>v != u||decide (o+n≤p)||decide (p+m≤o)
def q5(a b:List Fp):Bool:=a.all fun x=>b.all fun y=>qZ x y
def Alike(x:Fp)(H1 H2:U):Prop:=
 match x with
 | (v,none)=>H1[v]? = H2[v]?
 | (v,some (o,n))=>H1[v]? = H2[v]?∨∃ t g cs ds,H1[v]? = some (.row t g cs)∧H2[v]? = some (.row t g ds)∧cs.length=ds.length∧∀ i,o≤i→i<o+n→cs[i]? = ds[i]?
def qV(l:List Fp)(H1 H2:U):Prop:=∀ x∈l,Alike x H1 H2
def hJ:X→List Nat
 | .t k=>[k]
 | .c _=>[]
def tC(l:List X):List Nat:=(l.map hJ).flatten
def tB:Option X→List Nat
 | some x=>hJ x
 | none=>[]
def gv:ij→List Nat
 | .mv x=>hJ x
 | .pick c a b=>hJ c++hJ a++hJ b
 | .box _ x=>hJ x
 | .alloc _ _=>[]
 | .build _ ps=>(ps.map fun p=>hJ p.2.2).flatten
 | .buildSl _ _ _ _ ps=>(ps.map fun p=>hJ p.2).flatten
 | .ld1 x=>hJ x
 | .ldN _ x=>hJ x
 | .st1 a x=>hJ a++hJ x
 | .stN _ a x=>hJ a++hJ x
 | .nilck x=>hJ x
 | .arith _ x y=>hJ x++hJ y
 | .eqS _ _ _ x y=>hJ x++hJ y
 | .un _ x=>hJ x
 | .conv _ x=>hJ x
 | .b2s x=>hJ x
 | .mkfn _ a b=>tC a++tC b
 | .mkmap _=>[]
 | .mksl _ _ _ _ l c=>hJ l++hJ c
 | .slc _ x lo hi=>hJ x++tB lo++tB hi
 | .slcS x lo hi=>hJ x++tB lo++tB hi
 | .slc3 _ x lo hi mx=>hJ x++tB lo++hJ hi++hJ mx
 | .slcArr _ _ x lo hi=>hJ x++tB lo++tB hi
 | .fieldA _ x=>hJ x
 | .field _ _ _ x=>hJ x
 | .idxA _ x i=>hJ x++hJ i
 | .idxArr _ _ x i=>hJ x++hJ i
 | .idx _ _ _ x i=>hJ x++hJ i
 | .idxStr x i=>hJ x++hJ i
 | .lookup _ _ _ m k=>hJ m++hJ k
 | .mapUpd _ m k x=>hJ m++hJ k++hJ x
 | .ext x _=>hJ x
 | .call _ args=>tC args
 | .callN _ args=>tC args
 | .callv f args=>hJ f++tC args
 | .app _ _ _ x y=>hJ x++hJ y
 | .copy _ x y=>hJ x++hJ y
 | .len _ x=>hJ x
 | .minmax _ xs=>tC xs
 | .nilS _ x | .capE x | .clr _ _ x | .rangeS x | .nextS x | .rangeM x | .nextM x | .entry x=>hJ x
 | .mapEnt _ _ m k=>hJ m++hJ k
 | .entSt m s x=>hJ m++hJ s++hJ x
 | .appZ _ _ _ _ x n=>hJ x++hJ n
def CZ:ij→Bool
 | .mv _ | .pick .. | .build .. | .nilck _ | .arith .. | .eqS .. | .un .. | .conv .. | .mkfn .. | .slc .. | .slcS .. | .slc3 .. | .fieldA .. | .field .. | .idxA .. | .idxArr .. | .idx .. | .idxStr .. | .ext .. | .minmax ..
 | .len .slice _ | .len .string _=>true
 | _=>false
def Mz:ij→Bool
 | .ld1 _ | .ldN .. | .b2s _ | .slcArr .. | .lookup .. | .len .. | .call .. | .callv .. => true
 | op=>CZ op
def IZ(a b:ij):Bool:=CZ a||CZ b||(Mz a&&Mz b)
section
variable{f f':gd}
def xf{x:X}(h:∀ t∈hJ x,f t=f' t):ev f x=ev f' x:=by
 cases x with
 | t k=>exact h k (by simp[hJ])
 | c d=>rfl
def xg{l:List X}(h:∀ t∈tC l,f t=f' t):l.map (ev f)=l.map (ev f'):=
 au fun x hx=>xf fun t ht=>h t (aV.2 ⟨_,aw.2 ⟨x,hx,rfl⟩,ht⟩)
theorem Mt:∀ {l:List (Nat×Nat×X)},(∀ t∈(l.map fun p=>hJ p.2.2).flatten,f t=f' t)→partsOf f l=partsOf f' l
 | [],_=>rfl
 | (o,n,x)::r,h=>by
  have h1:ev f x=ev f' x:=xf fun t ht=>h t (by simp[ht])
  have h2:=Mt (l:=r) fun t ht=>h t (by simp only[List.map_cons,aU,List.mem_append];exact .inr ht)
  simp only[partsOf,h1,h2]
def tT{x:Option X}{n:Int}(h:∀ t∈tB x,f t=f' t):gy f x n=gy f' x n:=by
 cases x with
 | none=>rfl
 | some x=>simp only[gy,xf (x:=x) h]
theorem Ri:∀ {l:List X},(∀ t∈tC l,f t=f' t)→pr f l=pr f' l
 | [],_=>rfl
 | x::r,h=>by
  have h1:ev f x=ev f' x:=xf fun t ht=>h t (by simp[tC,ht])
  have h2:=Ri (l:=r) fun t ht=>h t (by simp only[tC,List.map_cons,aU,List.mem_append];exact .inr ht)
  simp only[pr,h1,h2]
def Ow{op:ij}(h:∀ t∈gv op,f t=f' t)(H:U)(n:Nat):fO f H n op=fO f' H n op:=by
 have hx:∀ {x:X},(∀ t∈hJ x,t∈gv op)→ev f x=ev f' x:=fun hm=>xf fun t ht=>h t (hm t ht)
 cases op<;>simp only[fO]<;>first|rfl|skip
 case mv x=>rw[hx (x:=x) (fun t ht=>by simpa[gv]using ht)]
 case pick c a b=>rw[hx (x:=c) (fun t ht=>by simp[gv,ht]),hx (x:=a) (fun t ht=>by simp[gv,ht]),hx (x:=b) (fun t ht=>by simp[gv,ht])]
 case box x=>rw[hx (x:=x) (fun t ht=>by simpa[gv]using ht)]
 case build z ps=>simp only[y9,Mt (f:=f) (f':=f') (l:=ps) (fun t ht=>h t (by simpa[gv]using ht))]
 case buildSl t sz z m ps=>
  have:=Mt (f:=f) (f':=f') (l:=ps.map fun p=>(p.1*sz,sz,p.2)) (fun t ht=>h t (by simpa[gv,cv,dX]using ht))
  simp only[vh,this]
 case ld1 x=>rw[hx (x:=x) (fun t ht=>by simpa[gv]using ht)]
 case ldN n x=>rw[hx (x:=x) (fun t ht=>by simpa[gv]using ht)]
 case st1 a x=>rw[hx (x:=a) (fun t ht=>by simp[gv,ht]),hx (x:=x) (fun t ht=>by simp[gv,ht])]
 case stN n a x=>rw[hx (x:=a) (fun t ht=>by simp[gv,ht]),hx (x:=x) (fun t ht=>by simp[gv,ht])]
 case nilck x=>rw[hx (x:=x) (fun t ht=>by simpa[gv]using ht)]
 case arith op x y=>rw[hx (x:=x) (fun t ht=>by simp[gv,ht]),hx (x:=y) (fun t ht=>by simp[gv,ht])]
 case eqS b ls neg x y=>rw[hx (x:=x) (fun t ht=>by simp[gv,ht]),hx (x:=y) (fun t ht=>by simp[gv,ht])]
 case un op x=>rw[hx (x:=x) (fun t ht=>by simpa[gv]using ht)]
 case conv k x=>rw[hx (x:=x) (fun t ht=>by simpa[gv]using ht)]
 case b2s x=>rw[hx (x:=x) (fun t ht=>by simpa[gv]using ht)]
 case mkfn g a b=>rw[xg (f:=f) (f':=f') (l:=a) (fun t ht=>h t (by simp[gv,ht])),xg (f:=f) (f':=f') (l:=b) (fun t ht=>h t (by simp[gv,ht]))]
 case mksl t sz Jw z l c=>rw[hx (x:=l) (fun t ht=>by simp[gv,ht]),hx (x:=c) (fun t ht=>by simp[gv,ht])]
 case slc sz x lo hi=>
  have e1:∀ n,gy f lo n=gy f' lo n:=fun n=>tT fun t ht=>h t (by simp[gv,ht])
  have e2:∀ n,gy f hi n=gy f' hi n:=fun n=>tT fun t ht=>h t (by simp[gv,ht])
  simp only[qS,e1,e2,hx (x:=x) (fun t ht=>by simp[gv,ht])]
 case slc3 sz x lo hi mx=>
  have e1:∀ n,gy f lo n=gy f' lo n:=fun n=>tT fun t ht=>h t (by simp[gv,ht])
  have e2:∀ n,gy f (some hi) n=gy f' (some hi) n:=fun n=>tT fun t ht=>h t (by simp only[tB]at ht;simp[gv,ht])
  have e3:∀ n,gy f (some mx) n=gy f' (some mx) n:=fun n=>tT fun t ht=>h t (by simp only[tB]at ht;simp[gv,ht])
  simp only[yC,e1,e2,e3,hx (x:=x) (fun t ht=>by simp[gv,ht])]
 case slcArr sz m x lo hi=>
  have e1:∀ n,gy f lo n=gy f' lo n:=fun n=>tT fun t ht=>h t (by simp[gv,ht])
  have e2:∀ n,gy f hi n=gy f' hi n:=fun n=>tT fun t ht=>h t (by simp[gv,ht])
  simp only[wE,e1,e2,hx (x:=x) (fun t ht=>by simp[gv,ht])]
 case slcS x lo hi=>
  have e1:∀ n,gy f lo n=gy f' lo n:=fun n=>tT fun t ht=>h t (by simp[gv,ht])
  have e2:∀ n,gy f hi n=gy f' hi n:=fun n=>tT fun t ht=>h t (by simp[gv,ht])
  simp only[IU,e1,e2,hx (x:=x) (fun t ht=>by simp[gv,ht])]
 case fieldA o x=>rw[hx (x:=x) (fun t ht=>by simpa[gv]using ht)]
 case field o n b x=>rw[hx (x:=x) (fun t ht=>by simpa[gv]using ht)]
 case idxA sz x i=>rw[hx (x:=x) (fun t ht=>by simp[gv,ht]),hx (x:=i) (fun t ht=>by simp[gv,ht])]
 case idxArr sz n x i=>rw[hx (x:=x) (fun t ht=>by simp[gv,ht]),hx (x:=i) (fun t ht=>by simp[gv,ht])]
 case idx sz n b x i=>rw[hx (x:=x) (fun t ht=>by simp[gv,ht]),hx (x:=i) (fun t ht=>by simp[gv,ht])]
 case idxStr x i=>rw[hx (x:=x) (fun t ht=>by simp[gv,ht]),hx (x:=i) (fun t ht=>by simp[gv,ht])]
 case lookup kk z ok m k=>rw[hx (x:=m) (fun t ht=>by simp[gv,ht]),hx (x:=k) (fun t ht=>by simp[gv,ht])]
 case mapUpd kk m k x=>rw[hx (x:=m) (fun t ht=>by simp[gv,ht]),hx (x:=k) (fun t ht=>by simp[gv,ht]),hx (x:=x) (fun t ht=>by simp[gv,ht])]
 case ext x i=>rw[hx (x:=x) (fun t ht=>by simpa[gv]using ht)]
 case app t sz Jw x y=>rw[hx (x:=x) (fun t ht=>by simp[gv,ht]),hx (x:=y) (fun t ht=>by simp[gv,ht])]
 case copy sz x y=>rw[hx (x:=x) (fun t ht=>by simp[gv,ht]),hx (x:=y) (fun t ht=>by simp[gv,ht])]
 case len k x=>rw[hx (x:=x) (fun t ht=>by simpa[gv]using ht)]
 case minmax b xs=>simp only[z',Ri (f:=f) (f':=f') (l:=xs) (fun t ht=>h t (by simpa[gv]using ht))]
end
end Go.AL
namespace Go.AL
open Go
def Gt{f f':gd}{op:ij}(h:∀ t∈gv op,f t=f' t):jN f op=jN f' op:=by
 cases op<;>first|rfl|skip
 case call g args=>simp only[jN,xg (f:=f) (f':=f') (l:=args) (fun t ht=>h t (by simpa[gv]using ht))]
 case callN g args=>simp only[jN,xg (f:=f) (f':=f') (l:=args) (fun t ht=>h t (by simpa[gv]using ht))]
 case callv g args=>
  simp only[jN,xg (f:=f) (f':=f') (l:=args) (fun t ht=>h t (by simp[gv,ht])),xf (f:=f) (f':=f') (x:=g) (fun t ht=>h t (by simp[gv,ht]))]
def Hf{f f':gd}{op:ij}(h:∀ t∈gv op,f t=f' t)(H:U):fX f H op=fX f' H op:=by
 have hx:∀ {x:X},(∀ t∈hJ x,t∈gv op)→ev f x=ev f' x:=fun hm=>xf fun t ht=>h t (hm t ht)
 have hc:=Gt h
 cases op<;>simp only[fX]<;>first|rfl|skip
 case ld1 x=>rw[hx (x:=x) (fun t ht=>by simpa[gv]using ht)]
 case ldN n x=>rw[hx (x:=x) (fun t ht=>by simpa[gv]using ht)]
 case b2s x=>rw[hx (x:=x) (fun t ht=>by simpa[gv]using ht)]
 case slcArr sz n x lo hi=>rw[hx (x:=x) (fun t ht=>by simp[gv,ht])]
 case st1 a x=>rw[hx (x:=a) (fun t ht=>by simp[gv,ht])]
 case stN n a x=>rw[hx (x:=a) (fun t ht=>by simp[gv,ht])]
 case lookup kk z ok m k=>rw[hx (x:=m) (fun t ht=>by simp[gv,ht])]
 case mapUpd kk m k x=>rw[hx (x:=m) (fun t ht=>by simp[gv,ht])]
 case app t sz Jw x y=>rw[hx (x:=x) (fun t ht=>by simp[gv,ht]),hx (x:=y) (fun t ht=>by simp[gv,ht])]
 case copy sz x y=>rw[hx (x:=x) (fun t ht=>by simp[gv,ht]),hx (x:=y) (fun t ht=>by simp[gv,ht])]
 case len k x=>cases k<;>simp only[fX]<;>rw[hx (x:=x) (fun t ht=>by simpa[gv]using ht)]
 case call g args=>rw[xg (f:=f) (f':=f') (l:=args) (fun t ht=>h t (by simpa[gv]using ht))]
 case callN g args=>rw[xg (f:=f) (f':=f') (l:=args) (fun t ht=>h t (by simpa[gv]using ht))]
 case callv g args=>rw[hc]
section
variable{H1 H2:U}
def IF{v:Nat}(h:H1[v]? = H2[v]?)(g:Nat):rowAt H1 v g=rowAt H2 v g:=by simp only[rowAt,h]
def L3{v:Nat}(h:H1[v]? = H2[v]?):lT H1 v=lT H2 v:=by simp only[lT,h]
def Da{v o n:Nat}(h:Alike (v,some (o,n)) H1 H2)(g:Nat) :
  (rowAt H1 v g=none∧rowAt H2 v g=none)∨∃ t cs ds,rowAt H1 v g=some (t,cs)∧rowAt H2 v g=some (t,ds)∧cs.length=ds.length∧∀ i,o≤i→i<o+n→cs[i]? = ds[i]? := by
 rcases h with h|⟨t,g',cs,ds,h1,h2,h3,h4⟩
 ·rw[IF h g]
  cases hr:rowAt H2 v g with
  | none=>exact .inl ⟨rfl,rfl⟩
  | some p=>exact .inr ⟨p.1,p.2,p.2,rfl,rfl,rfl,fun _ _ _=>rfl⟩
 ·by_cases e:g'=g
  ·exact .inr ⟨t,cs,ds,by simp[rowAt,h1,e],by simp[rowAt,h2,e],h3,h4⟩
  ·exact .inl ⟨by simp[rowAt,h1,e],by simp[rowAt,h2,e]⟩
def M1{sz:Nat}{d:D}(h:qV (mh d) H1 H2):j' sz H1 d=j' sz H2 d:=by
 unfold j'
 split<;>first|rfl|skip
 rename_i v g fY off len
 have:=h (v,none) (by simp[mh])
 rw[IF this]
def qV.left{a b:List Fp}(h:qV (a++b) H1 H2):qV a H1 H2:=fun x hx=>h x (bg _ hx)
def qV.right{a b:List Fp}(h:qV (a++b) H1 H2):qV b H1 H2:=fun x hx=>h x (bz _ hx)
def T7{f:gd}{op:ij}(h:qV (fX f H1 op) H1 H2)(n:Nat):fO f H1 n op=fO f H2 n op:=by
 cases op<;>simp only[fO]<;>first|rfl|skip
 case ld1 x=>
  congr 1
  simp only[fX]at h
  unfold tl
  split<;>first|rfl|skip
  rename_i v g o hx
  rw[hx]at h
  rcases Da (h (v,some (o,1)) (by simp[rM])) g with⟨e1,e2⟩|⟨t,cs,ds,e1,e2,e3,e4⟩
  ·rw[e1,e2]
  ·rw[e1,e2];exact e4 o (Nat.le_refl _) (by omega)
 case ldN m x=>
  congr 1
  simp only[fX]at h
  unfold tm
  split<;>first|rfl|skip
  rename_i v g o hx
  rw[hx]at h
  rcases Da (h (v,some (o,m)) (by simp[rM])) g with⟨e1,e2⟩|⟨t,cs,ds,e1,e2,e3,e4⟩
  ·rw[e1,e2]
  ·rw[e1,e2]
   have:(cs.drop o).take m=(ds.drop o).take m:=by
    apply bM
    intro i
    simp only[aC,aD]
    split
    ·exact e4 _ (by omega) (by omega)
    ·rfl
   simp only[e3,this]
 case st1 a x=>
  simp only[fX]at h
  unfold yF
  split<;>first|rfl|skip
  rename_i v g o hx
  rw[hx]at h
  rcases Da (h (v,some (o,1)) (by simp[rM])) g with⟨e1,e2⟩|⟨t,cs,ds,e1,e2,e3,e4⟩
  ·rw[e1,e2]
  ·rw[e1,e2];simp only[e3]
 case stN m a x=>
  simp only[fX]at h
  unfold yG
  split<;>first|rfl|skip
  rename_i v g o xs hx _
  rw[hx]at h
  rcases Da (h (v,some (o,m)) (by simp[rM])) g with⟨e1,e2⟩|⟨t,cs,ds,e1,e2,e3,e4⟩
  ·rw[e1,e2]
  ·rw[e1,e2];simp only[e3]
 case slcArr sz m x lo hi=>
  congr 1
  simp only[fX]at h
  unfold wE
  split<;>first|rfl|skip
  rename_i v g o l hh hx _ _
  rw[hx]at h
  rcases Da (h (v,some (o,m*sz)) (by simp[rM])) g with⟨e1,e2⟩|⟨t,cs,ds,e1,e2,e3,e4⟩
  ·rw[e1,e2]
  ·rw[e1,e2];simp only[e3]
 case lookup kk z ok m k=>
  congr 1
  simp only[fX]at h
  unfold xZ
  split<;>first|rfl|skip
  rename_i v kv hx _
  rw[hx]at h
  rw[L3 (h (v,none) (by simp[mh]))]
 case mapUpd kk m k x=>
  simp only[fX]at h
  unfold wh
  split<;>first|rfl|skip
  rename_i v kv hx _
  rw[hx]at h
  rw[L3 (h (v,none) (by simp[mh]))]
 case b2s x=>
  congr 1
  simp only[fX]at h
  unfold y8
  rw[M1 (sz:=1) h]
 case len k x=>
  congr 1
  unfold oj
  split<;>first|rfl|skip
  rename_i v hx
  simp only[fX]at h
  rw[hx]at h
  rw[L3 (h (v,none) (by simp[mh]))]
 case app t sz Jw x y=>
  simp only[fX]at h
  unfold pX
  rw[M1 (sz:=sz) h.right]
  split<;>first|rfl|skip
  split<;>first|rfl|skip
  rename_i v g fY off len hx
  rw[hx]at h
  rw[IF (h (v,none) (by simp[mh]))]
 case copy sz x y=>
  simp only[fX]at h
  unfold vu
  rw[M1 (sz:=sz) h.right]
  split<;>first|rfl|skip
  rename_i v g fY off len ys n hx _
  rw[hx]at h
  rw[IF (h (v,none) (by simp[mh]))]
def wz(H:U)(v g:Nat):rowAt H v g=match rowsOf H v with|some (t,g',cs)=>if g'=g then some (t,cs)else none|none=>none:=by
 unfold rowAt rowsOf
 cases H[v]? with
 | none=>rfl
 | some o=>cases o<;>rfl
theorem C6:∀ (k:Nat) (d:D),(∀ v∈gX H1 k d,rowsOf H1 v=rowsOf H2 v)→gX H2 k d=gX H1 k d∧e7 (fun _=>none) H2 k d=e7 (fun _=>none) H1 k d
 | 0,d,_=>⟨rfl,rfl⟩
 | k+1,d,h=>by
  have o3:∀ (ds:List D),(∀ v∈(ds.map (gX H1 k)).flatten,rowsOf H1 v=rowsOf H2 v)→ds.map (gX H2 k)=ds.map (gX H1 k)∧ds.map (e7 (fun _=>none) H2 k)=ds.map (e7 (fun _=>none) H1 k):=by
   intro ds pg
   have h1:∀ d∈ds,∀ v∈gX H1 k d,rowsOf H1 v=rowsOf H2 v:=fun d hd v hv=>pg v (aV.2 ⟨_,aw.2 ⟨d,hd,rfl⟩,hv⟩)
   exact⟨au fun d hd=>(C6 k d (h1 d hd)).1,au fun d hd=>(C6 k d (h1 d hd)).2⟩
  unfold gX at h
  unfold gX e7
  by_cases hc:closed d=true
  ·simp only[if_pos hc,and_self]
  ·simp only[if_neg hc]at h ⊢
   cases d with
   | agg cs=>obtain⟨a,b⟩:=o3 cs h;simp only[a,b,and_self]
   | tup cs=>obtain⟨a,b⟩:=o3 cs h;simp only[a,b,and_self]
   | fj cs=>obtain⟨a,b⟩:=o3 cs h;simp only[a,b,and_self]
   | sl sz es=>
    have h1:∀ e∈es,e.map (gX H2 k)=e.map (gX H1 k)∧e.map (e7 (fun _=>none) H2 k)=e.map (e7 (fun _=>none) H1 k):=fun e he=>o3 e fun v hv=>h v (aV.2 ⟨_,aw.2 ⟨e,he,rfl⟩,hv⟩)
    have a:es.map (fun e=>(e.map (gX H2 k)).flatten)=es.map (fun e=>(e.map (gX H1 k)).flatten):=au fun e he=>by rw[(h1 e he).1]
    have b:es.map (fun x=>x.map (e7 (fun _=>none) H2 k))=es.map (fun x=>x.map (e7 (fun _=>none) H1 k)):=au fun e he=>(h1 e he).2
    simp only[a,b,and_self]
   | fn g x y=>
    obtain⟨a,b⟩:=o3 x fun v hv=>h v (bg _ hv)
    obtain⟨a',b'⟩:=o3 y fun v hv=>h v (bz _ hv)
    simp only[a,b,a',b',and_self]
   | eX v g sz off len=>
    have hv:rowsOf H1 v=rowsOf H2 v:=h v (by simp)
    simp only[wz,← hv]
    cases gH:rowsOf H1 v with
    | none=>exact⟨rfl,rfl⟩
    | some p=>
     obtain⟨t,g',cs⟩:=p
     obtain⟨l1,l2⟩:=o3 cs fun u hu=>h u (by simp only[gH];exact aS _ hu)
     refine⟨by simp only[l1],?_⟩
     by_cases hg:g'=g
     ·simp only[hg,if_true,eO,l2]
     ·simp only[if_neg hg]
   | ptr v g off=>
    have hv:rowsOf H1 v=rowsOf H2 v:=h v (by simp)
    simp only[wz,← hv]
    cases gH:rowsOf H1 v with
    | none=>exact⟨rfl,rfl⟩
    | some p=>
     obtain⟨t,g',cs⟩:=p
     obtain⟨l1,l2⟩:=o3 cs fun u hu=>h u (by simp only[gH];exact aS _ hu)
     refine⟨by simp only[l1],?_⟩
     by_cases hg:g'=g
     ·simp only[hg,if_true,eO,l2]
     ·simp only[if_neg hg]
   | _=>exact⟨rfl,rfl⟩
