/- Part 2 of the proof of skewer.skewerlaw15.TableAgain. -/
import Derived.Test.YtnaefnajkaohgaaGreatDoorD01
set_option linter.all false
namespace Go.AL
open Go
section
variable{P:Program}{G:GT}{c:Ctx}{H:U}{w:World}{K:ik}{env:fD}{a:Act}
theorem aa5(h:e9 G c H w){t e:TypeId}{sz n:Nat}(hu:P.underlying t=some (.array n e))(hs:iU P e=some sz){x i:D}{u v:Value}(h1:eP c w u x)(h2:eP c w v i)(hk:Ah sz n x i H K) :
  ∃ r,(Instr.indexAt t u v).run P w = .ok r w∧gU G c H w K r w:=by
 have gK:∀ (ad:Addr) (k:IntKind) (m:Int),0≤m∧m<n→(Instr.indexAt t (.pointer (some ad)) (.int k m)).run P w = .ok (.pointer (some (ad.add (m.toNat*sz)))) w:=fun ad k m hm=>by
  simp only[Instr.indexAt,Sem.run_bind,asIntOf,Sem.run_pure,Result.andThen_ok,run_underlying hu,oW hs,Sem.run_ite,Instr.sureAddr]
  rw[if_pos hm]
 unfold Ah at hk
 split at hk
 ·rename_i v0 g0 o k m
  obtain⟨hm,hk⟩:=hk
  cases h2
  cases h1 with
  | ptr _ _ _ L eU hv=>
   refine⟨_,gK _ k m hm,.plain h hk ?_⟩
   rw[Addr.add_lit,br]
   exact .ptr _ _ _ L eU hv
 ·rename_i cs k m
  obtain⟨hm,hk⟩:=hk
  cases h2
  obtain⟨b,p,rfl,hF,hc⟩:=uP h1
  refine⟨_,gK _ k m hm,.plain h hk ?_⟩
  rw[Addr.add_lit]
  exact HG hF (hc.drop _)
 ·exact hk.elim
theorem aa3(h:e9 G c H w){t e:TypeId}{sz n:Nat}{b:Bool}(hu:P.underlying t=some (.array n e))(hs:iU P e=some sz)(ha:mG P e=some b){x i:D}{u v:Value}(h1:eP c w u x)(h2:eP c w v i)(hk:Aj sz n b x i H K) :
  ∃ r,(Instr.index t u v).run P w = .ok r w∧gU G c H w K r w:=by
 unfold Aj at hk
 split at hk
 ·rename_i cs k m
  obtain⟨hm,hk⟩:=hk
  cases h2
  cases h1 with
  | agg vs _ hl h1 h2=>
   obtain⟨r,hr,hp⟩:=Pn (off:=m.toNat*sz) h ha hs ⟨hl,h1,h2⟩ hk
   refine⟨r,?_,hp⟩
   simp only[Instr.index,Sem.run_bind,asIntOf,Sem.run_pure,Result.andThen_ok,run_underlying hu,Sem.run_ite]
   rw[if_pos hm]
   simp[oW hs,hr]
 ·exact hk.elim
theorem aa6(h:e9 G c H w){t:TypeId}(hu:P.underlying t=some .string){x i:D}{u v:Value}(h1:eP c w u x)(h2:eP c w v i)(hk:Ak x i H K) :
  ∃ r,(Instr.index t u v).run P w = .ok r w∧gU G c H w K r w:=by
 unfold Ak at hk
 split at hk
 ·rename_i s k m
  obtain⟨hm,hk⟩:=hk
  cases h1
  cases h2
  have fj:m.toNat<s.size:=by omega
  have hl:s.data.toList.getD m.toNat 0=s[m.toNat]:=by
   have h':m.toNat<s.data.size:=fj
   show(s.data.toList[m.toNat]?).getD 0=s.data[m.toNat]
   rw[bB,b9 h']
   rfl
  rw[hl]at hk
  refine⟨_,?_,.val h hk⟩
  simp only[Instr.index,Sem.run_bind,asIntOf,Sem.run_pure,Result.andThen_ok,run_underlying hu]
  rw[if_pos hm.1]
  simp[fj]
 ·exact hk.elim
theorem aa0(h:e9 G c H w){x:D}{i:Nat}{u:Value}(h1:eP c w u x)(hk:zh x i H K):∃ r,(Instr.extract u i).run P w = .ok r w∧gU G c H w K r w:=by
 unfold zh at hk
 split at hk
 ·split at hk
  ·rename_i ds d hd
   cases h1 with
   | tup vs _ hl h1=>
    have hi:i<vs.length:=by rw[hl];exact(ae.1 hd).1
    refine⟨vs[i],?_,.plain h hk (h1 i _ d (by simp[hi]) hd)⟩
    simp[Instr.extract,hi]
  ·exact hk.elim
 ·exact hk.elim
theorem abb(h:e9 G c H w)(he:jh c w env a){f:Fn}{first cap:Array Operand}{df dc:List X}(h1:rU G first.toList=some df)(h2:rU G cap.toList=some dc)
  (hk:K (.fn f (df.map (ev env)) (dc.map (ev env))) H):gU G c H w K (.func f (first.map a.eval) (cap.map a.eval)) w:=by
 have r1:=uN h he first.toList h1
 have r2:=uN h he cap.toList h2
 refine .plain h hk ?_
 have:=eP.fn (c:=c) (w:=w) f (first.toList.map a.eval) (cap.toList.map a.eval) (df.map (ev env)) (dc.map (ev env)) r1.length r2.length r1.get r2.get
 have e:∀ l:Array Operand,(l.toList.map a.eval).toArray=l.map a.eval:=fun l=>by cases l;simp
 rwa [e,e]at this
theorem abd(h:e9 G c H w){al:Al}(fO:kH H al)(t:TypeId)(kk:KK)(hk:K (.omap al.1) (al.2 (.map kk []))):∃ r w',(Instr.makeMap t none).run P w = .ok r w'∧gU G c H w K r w':=by
 have pb:=iC.alloc w (.map #[] 0)
 have hL:(⟨w.heap.size,0,0,false⟩:Loc).ij=false→w.heap.size≤(⟨w.heap.size,0,0,false⟩:Loc).b∧(⟨w.heap.size,0,0,false⟩:Loc).b<(w.alloc (.map #[] 0)).heap.size:=fun _=>⟨Nat.le_refl _,by simp⟩
 have ht:=(fO (.map kk [])).pX
 have hs:=Gx h ht pb ⟨w.heap.size,0,0,false⟩ hL
 refine⟨.map (some w.heap.size),w.alloc (.map #[] 0),by simp[Instr.makeMap],_,_,_,hk,Kl h ht pb _ hL rfl ?_,?_,hs⟩
 ·simp only[fJ]
  exact⟨trivial,by simp,#[],0,heap_alloc_new _ _,⟨rfl,by simp,by simp⟩⟩
 ·exact .omap (c:=c.set al.1 0 ⟨w.heap.size,0,0,false⟩) al.1 ⟨w.heap.size,0,0,false⟩ (Ctx.py _ _ _ _) rfl
theorem abe(h:e9 G c H w){al:Al}(fO:kH H al){t e:TypeId}{i:TypeInfo}{z:List D}(hu:P.underlying t=some (.slice e))(hi:P.info? e=some i)(hz:nC P e=some z)(xx:z.length=i.size)(jd:0<i.size)
  {l m:D} {u v:Value} (h1:eP c w u l) (h2:eP c w v m) (hk:AB e i.size i.bytes z l m al K):∃ r w',(Instr.makeSlice t u v).run P w = .ok r w'∧gU G c H w K r w':=by
 unfold AB at hk
 split at hk
 ·rename_i k n k' q
  obtain⟨⟨ID,hnq,hq,hb⟩,hk⟩:=hk
  cases h1
  cases h2
  obtain⟨zv,sE,_,pe⟩:=uu hz w
  have rk:zv.cells.size=i.size:=by have:=(pe c w).len;simp at this;omega
  have wn:IntKind.i64.wrap n=n:=wrap_i64 (by unfold lx;omega)
  have wq:IntKind.i64.wrap q=q:=wrap_i64 (by unfold lx;omega)
  have mZ:Cells c w ((Array.range (q.toNat*i.size)).map (fun j=>zv.cells[j % zv.cells.size]!)).toList (List.replicate q.toNat z).flatten:=by
   rw[← rk,FY zv.cells q.toNat (by omega)]
   exact Ej _ _ pe _
  obtain⟨L,e1,e2,e3,e4,e5,e6⟩:=AD h w (iC.refl w) e _ _ ((Array.range (q.toNat*i.size)).map (fun j=>zv.cells[j % zv.cells.size]!)).size ((Array.range (q.toNat*i.size)).map (fun j=>zv.cells[j % zv.cells.size]!)) (fO _).pX mZ (by rw[← cH,dy]) (Nat.le_refl _)
  refine⟨.slice (some ⟨w.heap.size,0,none⟩) n.toNat q.toNat,w.alloc (.cells ((Array.range (q.toNat*i.size)).map (fun j=>zv.cells[j % zv.cells.size]!)) e),?_,?_⟩
  ·have c1:¬ ((i.bytes:Int)*q>2 ^ 48):=by omega
   have c2:¬ q<0:=by omega
   have c3:¬ n<0:=by omega
   have c4:¬ n>q:=by omega
   simp only[Instr.makeSlice,Sem.run_bind,run_underlying hu,Result.andThen_ok,asInt,asIntOf,Sem.run_pure,run_typeInfo hi,wn,wq,Sem.run_ite]
   rw[if_neg (by simp[c1,c2,c3,c4];omega)]
   by_cases h0:q.toNat*i.size=0
   ·have UO:q.toNat=0:=by rcases Nat.mul_eq_zero.1 h0 with h|h<;>omega
    have er:Array.range 0=(#[]:Array Nat):=rfl
    simp[sizeOf,run_typeInfo hi,UO,newRow,er]
   ·simp[sizeOf,run_typeInfo hi,h0,sE,newRow]
  ·have hp:=FU (c:=c) (w:=w.alloc (.cells ((Array.range (q.toNat*i.size)).map (fun j=>zv.cells[j % zv.cells.size]!)) e)) e1 e3 al.1 0 i.size n.toNat q.toNat (by rw[e4];simp) (by omega) (by unfold maxLen;omega)
   rw[e2]at hp
   exact⟨_,_,_,hk,e5,hp,e6⟩
 ·exact hk.elim
end
end Go.AL
namespace Go.AL
open Go
section
variable{P:Program}{G:GT}{c:Ctx}{H:U}{w:World}{K:ik}{env:fD}{a:Act}
theorem Eh{α:Type}(sz:Nat)(jd:0<sz):∀ (ls:List (List α)),(∀ l∈ls,l.length=sz)→∀ j:Nat,ls.flatten[j]? = (ls[j / sz]?).bind (·[j % sz]?)
 | [],_,j=>by simp
 | l::ls,h,j=>by
  have hl:l.length=sz:=h l (by simp)
  rw[aQ]
  by_cases hj:j<sz
  ·rw[ag (by omega),Nat.div_eq_of_lt hj,ec hj]
   simp
  ·rw[ak (by omega),hl,Eh sz jd ls (fun l hl=>h l (by simp[hl])),Nat.div_eq_sub_div (a:=j) (b:=sz) jd (by omega),Nat.mod_eq_sub_mod (a:=j) (b:=sz) (by omega)]
   simp
theorem Ei{α:Type}(sz:Nat):∀ (ls:List (List α)),(∀ l∈ls,l.length=sz)→ls.flatten.length=ls.length*sz
 | [],_=>by simp
 | l::ls,h=>by
  rw[aQ,ay,Ei sz ls (fun l hl=>h l (by simp[hl])),h l (by simp),aJ,bg]
  omega
theorem Kg(h:e9 G c H w){sz:Nat}(jd:0<sz){d:D}{u:Value}(hr:eP c w u d){ys:List D}{n:Nat}(hy:jx sz H d=some (ys,n)) :
  ∃ yb yc vs,u = .slice yb n yc∧Cells c w vs ys∧ys.length=n*sz∧n≤yc∧(yb=none→n=0)∧(∀ ad,yb=some ad→∀ (j:Nat) (v:Value),vs[j]? = some v→w.cell? (ad.add j)=some v):=by
 unfold jx at hy
 split at hy
 ·rename_i fG es
  split at hy
  ·rename_i e
   subst e
   cases hy
   cases hr with
   | sl ad len cap _ _ g hlen iE iW gj my hc hr=>
    have zM:=Ei fG es gj
    have ia:∀ (j:Nat) (d:D),es.flatten[j]? = some d→∃ e,es[j / fG]? = some e∧e[j % fG]? = some d:=fun j d hd=>by
     rw[Eh fG jd es gj]at hd
     cases he:es[j / fG]? with
     | none=>simp[he]at hd
     | some e=>exact⟨e,rfl,by simpa[he]using hd⟩
    refine⟨ad,cap,(List.range es.flatten.length).map fun j=>g (j / fG) (j % fG),by rw[hlen],⟨by simp,fun v hv=>?_,fun i v d hv hd=>?_⟩,zM,by omega,fun e=>by have:=my e;omega,fun b hb j v hv=>?_⟩
    ·simp only[av,bx]at hv
     obtain⟨j,hj,rfl⟩:=hv
     obtain⟨e,zD,oi⟩:=ia j _ (by rw[List.getElem?_eq_getElem hj])
     obtain⟨_,_,_,_,_,h1⟩:=hc _ e _ _ zD oi
     exact h1
    ·obtain⟨e,zD,oi⟩:=ia i d hd
     simp only[ar,bX (ae.1 hd).1,aX,aq]at hv
     subst hv
     exact hr _ e _ d zD oi
    ·have hj:j<es.flatten.length:=by have:=(ae.1 hv).1;simpa using this
     simp only[ar,bX hj,aX,aq]at hv
     subst hv
     obtain⟨e,zD,oi⟩:=ia j _ (by rw[List.getElem?_eq_getElem hj])
     obtain⟨b',o,tI,_,h2,_⟩:=hc _ e _ _ zD oi
     rw[hb]at tI
     cases tI
     rw[Addr.add_lit]
     have h3:=h2
     rw[Nat.div_add_mod' j fG]at h3
     exact h3
  ·cases hy
 ·cases hy
  cases hr with
  | emp=>exact⟨none,0,[],rfl,Cells.nil,by simp,Nat.le_refl _,fun _=>rfl,fun _ _ j v hv=>by simp at hv⟩
 ·rename_i v0 g0 fG off len
  split at hy
  ·rename_i t cs fR
   split at hy
   ·rename_i hJ
    obtain⟨rfl,kB⟩:=hJ
    cases hy
    have hv:=pW fR
    dsimp only at hv
    cases hr with
    | eN _ _ _ _ _ cap L eU gg iE iW jO=>
     obtain⟨arr,h1,h2,h3,h4⟩:=uo h hv eU gg
     refine⟨_,cap,_,rfl,((h4.drop (off*fG)).take (n*fG)),?_,iE,(fun e=>nomatch e),fun ad hb j v hv=>?_⟩
     ·simp only[aT,bn]
      rw[bg]at kB
      omega
     ·cases hb
      rw[Addr.add_lit]
      rw[az]at hv
      split at hv
      ·rw[aB,az]at hv
       split at hv
       ·rw[aB]at hv
        simp[World.cell?,h1]
        rw[br]
        simpa using hv
       ·cases hv
      ·cases hv
    | kT _ _ _ _ L eU ad=>
     refine⟨ad,0,[],rfl,?_,by simp,Nat.le_refl _,fun _=>rfl,fun _ _ j v hv=>by simp at hv⟩
     simp only[cc,de]
     exact Cells.nil
   ·cases hy
  ·cases hy
 ·cases hy
theorem LO:∀ {vs:List Value} {ys:List D} {ns:List Int},vs.length=ys.length→(∀ (i:Nat) (v:Value) (d:D),vs[i]? = some v→ys[i]? = some d→eP c w v d)→bytesOf ys=some ns→vs=ns.map (Value.int .u8)
 | [],[],ns,_,_,h=>by cases h;rfl
 | v::vs,y::ys,ns,hl,hr,h=>by
  unfold bytesOf at h
  split at h
  ·rename_i heq;cases heq
  ·rename_i n r heq
   cases heq
   split at h
   ·rename_i l kO
    cases h
    have h0:=hr 0 v _ rfl rfl
    cases h0
    have e:=LO (vs:=vs) (by simpa using hl) (fun i v d hv hd=>hr (i+1) v d (by simpa using hv) (by simpa using hd)) kO
    rw[e]
    rfl
   ·cases h
  ·cases h
theorem aaQ(h:e9 G c H w){s d e:TypeId}(hs:P.underlying s=some (.slice e))(he:P.underlying e=some (.int .u8))(hd:P.underlying d=some .string){x:D}{u:Value}(h1:eP c w u x)(hk:yN x H K) :
  ∃ r,(convert s d u).run P w = .ok r w∧gU G c H w K r w:=by
 unfold yN at hk
 split at hk
 ·rename_i ys n nP
  obtain⟨yb,yc,vs,nh,iS,je,N',Ae,Ad⟩:=Kg h (by omega) h1 nP
  subst nh
  split at hk
  ·rename_i ns EV
   have hv:=LO iS.len iS.rep EV
   refine⟨_,?_,.val h hk⟩
   rw[run_convert_bytes_string w s d e yb n yc hs he hd]
   cases yb with
   | none=>
    have hn:=Ae rfl
    subst hn
    have:ns = []:=by
     have:vs = []:=a8 (by rw[iS.len,je])
     rw[this]at hv
     cases ns with
     | nil=>rfl
     | cons=>cases hv
    subst this
    simp[Conv.bytesToString]
   | some ad=>
    refine run_bytesToString w ad n yc ns ?_
    have hl:vs.length=n:=by rw[iS.len,je];simp
    have:=run_loadCells_list (P:=P) w ad vs (Ad ad rfl)
    rw[hl]at this
    rw[this,hv]
  ·exact hk.elim
 ·exact hk.elim
theorem Re(h:e9 G c H w)(he:jh c w env a){x:Option Operand}{X:Option X}(hx:rT G x=some X){d:Int}{n:Int}(hb:gZ env X d=some n) :
  (x=none∧n=d)∨∃ k o,x=some o∧a.eval o = .int k n:=by
 cases x with
 | none=>cases hx;simp[gZ]at hb;exact .inl ⟨rfl,hb.symm⟩
 | some o=>
  simp only[rT,ai]at hx
  obtain⟨X0,hX,rfl⟩:=hx
  have:=gD h he hX
  simp only[gZ]at hb
  split at hb
  ·rename_i k m na
   cases hb
   rw[na]at this
   generalize hv:a.eval o=v at this
   cases this
   exact .inr ⟨k,o,rfl,hv⟩
  ·cases hb
theorem Qa(isSlice:Bool)(len cap:Nat)(lo hi:Option Value)(l h:Int)(nc:(lo=none∧l=0)∨∃ k,lo=some (.int k l))(Ue:(hi=none∧h=len)∨∃ k,hi=some (.int k h))
  (h0:0≤l) (h1:l≤h) (h2:h≤cap):(Instr.sliceBounds isSlice len cap lo hi none).run P w = .ok (l.toNat,h.toNat,cap) w:=by
 have eh:(h.toNat:Int)=h:=ct (by omega)
 rcases nc with⟨rfl,rfl⟩|⟨k,rfl⟩<;>rcases Ue with⟨rfl,rfl⟩|⟨k',rfl⟩
 ·simp[Instr.sliceBounds]
 ·simp[Instr.sliceBounds,run_sliceBound w k' h cap _ (by omega) h2]
 ·simp[Instr.sliceBounds,run_sliceBound w k l len _ h0 h1]
 ·simp[Instr.sliceBounds,run_sliceBound w k' h cap _ (by omega) h2,run_sliceBound w k l h.toNat _ h0 (by omega)]
theorem DG(h:e9 G c H w)(he:jh c w env a){x:Option Operand}{X:Option X}(hx:rT G x=some X){d:Int}{n:Int}(hb:gZ env X d=some n) :
  (x.map a.eval=none∧n=d)∨∃ k,x.map a.eval=some (.int k n):=by
 rcases Re h he hx hb with⟨rfl,rfl⟩|⟨k,o,rfl,hv⟩
 ·exact .inl ⟨rfl,rfl⟩
 ·exact .inr ⟨k,by simp[hv]⟩
theorem abj(h:e9 G c H w)(he:jh c w env a){t e:TypeId}{sz:Nat}(hu:P.underlying t=some (.slice e))(hs:iU P e=some sz){lo hi:Option Operand}{L M:Option X}(hl:rT G lo=some L)(hm:rT G hi=some M)
  {x:D} {u:Value} (h1:eP c w u x) (hk:A' env sz x L M H K):∃ r,(Instr.sliceAt t u (lo.map a.eval) (hi.map a.eval) none).run P w = .ok r w∧gU G c H w K r w:=by
 have gK:∀ (b:Option Addr) (len cap:Nat) (l m:Int),gZ env L 0=some l→gZ env M len=some m→0≤l→l≤m→m≤cap →
   (Instr.sliceAt t (.slice b len cap) (lo.map a.eval) (hi.map a.eval) none).run P w = .ok (.slice (if cap=l.toNat then b else b.map (·.add (l.toNat*sz))) (m.toNat-l.toNat) (cap-l.toNat)) w:=by
  intro b len cap l m oO qZ h0 qk Uy
  have hb:=Qa (P:=P) (w:=w) true len cap (lo.map a.eval) (hi.map a.eval) l m (DG h he hl oO) (DG h he hm qZ) h0 qk Uy
  simp only[Instr.sliceAt,Sem.run_bind,run_underlying hu,Result.andThen_ok,Instr.slice,hb,oW hs,Sem.run_pure]
 unfold A' at hk
 split at hk
 ·rename_i fG es
  split at hk
  ·rename_i l m oO qZ
   obtain⟨rfl,⟨h0,qk,IB⟩,hk⟩:=hk
   cases h1 with
   | sl ad len cap _ _ g hlen iE iW gj my hc hr=>
    refine⟨_,gK ad len cap l m oO (by rw[← hlen];exact qZ) h0 qk (by omega),.plain h hk ?_⟩
    have ia:∀ (i:Nat) (e:List D),((es.drop l.toNat).take (m.toNat-l.toNat))[i]? = some e→es[l.toNat+i]? = some e∧i<m.toNat-l.toNat:=fun i e hi=>by
     rw[az]at hi
     split at hi
     ·rw[aB]at hi;exact⟨hi,by assumption⟩
     ·cases hi
    refine .sl _ _ _ fG _ (fun i j=>g (l.toNat+i) j) (by simp;omega) (by omega) (by omega) (fun e lK=>gj e (bV (aM lK))) ?_ ?_ ?_
    ·intro hn
     split at hn
     ·omega
     ·cases ad with
      | none=>have:=my rfl;omega
      | some ad=>simp at hn
    ·intro i e j d hi hd
     obtain⟨h3,h4⟩:=ia i e hi
     obtain⟨b,o,tI,hF,vh,h1⟩:=hc _ e j d h3 hd
     refine⟨b,o+l.toNat*fG,?_,hF,?_,h1⟩
     ·rw[if_neg (by omega),tI]
      simp[Addr.add_lit]
     ·rw[← vh,bg]
      congr 2
      omega
    ·intro i e j d hi hd
     exact hr _ e j d (ia i e hi).1 hd
  ·exact hk.elim
 ·rename_i v g0 fG off len
  split at hk
  ·rename_i l m oO qZ
   obtain⟨rfl,⟨h0,qk,IB⟩,hk⟩:=hk
   cases h1 with
   | eN _ _ _ _ _ cap Lc eU hv iE iW jO=>
    refine⟨_,gK _ len cap l m oO qZ h0 qk (by omega),.plain h hk ?_⟩
    by_cases hz:cap=l.toNat
    ·rw[if_pos hz,show m.toNat-l.toNat=0 by omega,show cap-l.toNat=0 by omega]
     exact .kT v g0 fG (off+l.toNat) Lc eU _
    ·rw[if_neg hz]
     have:=eP.eN (c:=c) (w:=w) v g0 fG (off+l.toNat) (m.toNat-l.toNat) (cap-l.toNat) Lc eU hv (by omega) (by omega) (by rw[show off+l.toNat+(cap-l.toNat)=off+cap by omega];exact jO)
     simp only[aX,Addr.add_lit]
     rw[br,← bg]
     exact this
   | kT _ _ _ _ Lc eU ad=>
    have:l=0:=by omega
    subst this
    have:m=0:=by omega
    subst this
    refine⟨_,gK ad 0 0 0 0 oO qZ h0 qk (by omega),.plain h hk ?_⟩
    simp only[Int.toNat_zero,if_true,Nat.sub_zero,bQ]
    exact .kT v g0 fG off Lc eU ad
  ·exact hk.elim
 ·split at hk
  ·rename_i l m oO qZ
   obtain⟨⟨rfl,rfl⟩,hk⟩:=hk
   cases h1 with
   | emp=>
    refine⟨_,gK none 0 0 0 0 oO qZ (by omega) (by omega) (by omega),.plain h hk ?_⟩
    simp only[Int.toNat_zero,if_true,Nat.sub_zero]
    exact .emp
  ·exact hk.elim
 ·exact hk.elim
theorem abk(h:e9 G c H w)(he:jh c w env a){t:TypeId}(hu:P.underlying t=some .string){lo hi:Option Operand}{L M:Option X}(hl:rT G lo=some L)(hm:rT G hi=some M)
  {s:ByteArray} (hk:xZ env (.val (.string s)) L M H K):∃ r,(Instr.sliceAt t (.string s) (lo.map a.eval) (hi.map a.eval) none).run P w = .ok r w∧gU G c H w K r w:=by
 simp only[xZ]at hk
 split at hk
 ·rename_i l m oO qZ
  obtain⟨⟨h0,qk,IB⟩,hk⟩:=hk
  have hb:=Qa (P:=P) (w:=w) false s.size s.size (lo.map a.eval) (hi.map a.eval) l m (DG h he hl oO) (DG h he hm qZ) h0 qk IB
  exact⟨.string (s.extract l.toNat m.toNat),by simp[Instr.sliceAt,run_underlying hu,Instr.slice,hb],.val h hk⟩
 ·exact hk.elim
theorem ua{v:Nat}{x:KK×List (Value×D)}(h:jW H v=some x):H[v]? = some (.map x.1 x.2):=by
 unfold jW at h
 split at h
 ·cases h;assumption
 ·cases h
theorem JO(h:e9 G c H w){t ty:TypeId}{k:uF}{d:TypeDesc}(hd:P.underlying t=some d)(vw:match k with | .slice=>∃ e,d = .slice e | .string=>d = .string | .map=>∃ k e,d = .map k e)
  {x:D} {u:Value} (h1:eP c w u x) (hk:Ar k x H K):∃ r,(Builtin.len_ #[t] ty #[u]).run P w = .ok r w∧gU G c H w K r w:=by
 unfold Ar at hk
 split at hk
 ·obtain⟨e,rfl⟩:=vw
  cases h1 with
  | sl ad len cap _ _ g hlen iE iW gj my hc hr=>
   refine⟨goInt len,by simp[Builtin.len_,run_underlying hd],.plain h hk ?_⟩
   rw[hlen];exact .val _
 ·obtain⟨e,rfl⟩:=vw
  cases h1 with
  | emp=>exact⟨goInt 0,by simp[Builtin.len_,run_underlying hd],.plain h hk (.val _)⟩
 ·rename_i v g0 sz off len
  obtain⟨e,rfl⟩:=vw
  cases h1 with
  | eN _ _ _ _ _ cap L eU hv iE iW jO=>exact⟨goInt len,by simp[Builtin.len_,run_underlying hd],.plain h hk (.val _)⟩
  | kT=>exact⟨goInt 0,by simp[Builtin.len_,run_underlying hd],.plain h hk (.val _)⟩
 ·have vw:d = .string:=vw
  subst vw
  cases h1
  exact⟨_,by simp[Builtin.len_,run_underlying hd]<;>rfl,.plain h hk (.val _)⟩
 ·rename_i v
  obtain⟨kk,e,rfl⟩:=vw
  split at hk
  ·rename_i oT es sm
   cases h1 with
   | omap _ L eU hv=>
    have ga:=h.ob v _ (ua sm)
    simp only[Ob.gen]at ga
    rw[eU]at ga
    simp only[fJ]at ga
    obtain⟨_,_,arr,clock,hm,gj,_⟩:=ga
    refine⟨goInt arr.size,by simp[Builtin.len_,run_underlying hd,getObj,Sem.run,hm],.plain h hk ?_⟩
    rw[← gj];exact .val _
  ·exact hk.elim
 ·exact hk.elim
theorem Pj(h:e9 G c H w)(he:jh c w env a){xs:List X}{ops:Array Operand}(hx:rU G ops.toList=some xs)(isMax:Bool)(ts:Array TypeId)(ty:TypeId)(hk:AA env isMax xs H K) :
  ∃ r,(if isMax then Builtin.max_ ts ty (ops.map a.eval)else Builtin.min_ ts ty (ops.map a.eval)).run P w = .ok r w∧gU G c H w K r w:=by
 have hr:=uN h he ops.toList hx
 have key:∀ (xs:List X) (vs:List Value) (l:List Int),nQ env xs=some l→gY c w vs (xs.map (ev env))→vs=l.map (Value.int .i64 ·):=by
  intro xs
  induction xs with
  | nil=>intro vs l hl hr;simp[nQ]at hl;subst hl;cases hr;rfl
  | cons x xs ih=>
   intro vs l hl hr
   simp only[nQ]at hl
   split at hl
   ·rename_i n l' na kO
    cases hl
    simp only[List.map_cons]at hr
    cases hr with
    | cons h1 h2=>
     rw[na]at h1
     cases h1
     rw[ih _ _ kO h2]
     rfl
   ·cases hl
 have e:∀ l:Array Operand,(l.toList.map a.eval).toArray=l.map a.eval:=fun l=>by cases l;simp
 unfold AA at hk
 split at hk
 ·rename_i p q hi
  have hv:=key _ _ _ hi hr
  have jm:ops.map a.eval = #[.int .i64 p,.int .i64 q]:=by rw[← e,hv];rfl
  cases isMax
  ·refine⟨.int .i64 (min p q),?_,.val h (by simpa using hk)⟩
   simp only[bF,if_false,jm]
   have:(if q<p then q else p)=min p q:=by omega
   simp[Builtin.min_,Builtin.min2,this]
  ·refine⟨.int .i64 (max p q),?_,.val h (by simpa using hk)⟩
   simp only[if_true,jm]
   have:(if q>p then q else p)=max p q:=by omega
   simp[Builtin.max_,Builtin.max2]
   omega
 ·rename_i p q s hi
  have hv:=key _ _ _ hi hr
  have jm:ops.map a.eval = #[.int .i64 p,.int .i64 q,.int .i64 s]:=by rw[← e,hv];rfl
  cases isMax
  ·refine⟨.int .i64 (min (min p q) s),?_,.val h (by simpa using hk)⟩
   simp only[bF,if_false,jm]
   simp[Builtin.min_,Builtin.min2]
   omega
  ·refine⟨.int .i64 (max (max p q) s),?_,.val h (by simpa using hk)⟩
   simp only[if_true,jm]
   simp[Builtin.max_,Builtin.max2]
   omega
 ·exact hk.elim
end
end Go.AL
namespace Go.AL
open Go
section
variable{P:Program}{G:GT}{c:Ctx}{H:U}{w:World}{K:ik}{env:fD}{a:Act}
theorem O6{G:GT}{c:Ctx}{H:U}{w w':World}(h:e9 G c H w){v g:Nat}{t:TypeId}{cs:List D}(hv:H[v]? = some (.row t g cs)){L:Loc}(eU:c.ι v g=some L)(L':Loc)
  (hg:(w'.os=w.os∧w.drawn≤w'.drawn)∧w'.tape=w.tape∧w'.output=w.output∧w.heap.size≤w'.heap.size) (EN:∀ b,b<w.heap.size→¬ (L.ij=false∧b=L.b)→w'.heap[b]? = w.heap[b]?)
  (vC:L'.ij=false→(w.heap.size≤L'.b∨(L.ij=false∧L'.b=L.b))∧L'.b<w'.heap.size) (kW:List D)
  (ga:(∀ u d,eP c w u d→eP (c.set v (g+1) L') w' u d)→fJ (c.set v (g+1) L') w' (some L') (.row t (g+1) kW)) :
  e9 G (c.set v (g+1) L') (H.set v (.row t (g+1) kW)) w'∧Step H.length c H w (c.set v (g+1) L') (H.set v (.row t (g+1) kW)) w':=by
 have gL:v<H.length:=(ae.1 hv).1
 have nf:jB c H v L:=⟨_,hv,rfl,eU⟩
 have ht:s9 H v (.row t (g+1) kW) (H.set v (.row t (g+1) kW)):=⟨oB gL,.inr (.inr ⟨_,hv,rfl,Nat.lt_succ_self _⟩),by simp⟩
 have UG:∀ b,c.F b→¬ (L.ij=false∧b=L.b):=fun b hF e=>h.nF b ⟨v,L,nf,e.1,e.2.symm⟩ hF
 have kN:∀ u l,jB (c.set v (g+1) L') (H.set v (.row t (g+1) kW)) u l→(u=v∧l=L')∨(u≠v∧jB c H u l):=fun u l hl=>yd ht hl
 have oM:∀ b,jS (c.set v (g+1) L') (H.set v (.row t (g+1) kW)) b→(L'.ij=false∧b=L'.b)∨(jS c H b∧¬ (L.ij=false∧b=L.b)):=by
  rintro b ⟨u,l,hl,kD,rfl⟩
  rcases kN u l hl with⟨_,rfl⟩|⟨fY,h1⟩
  ·exact .inl ⟨kD,rfl⟩
  ·exact .inr ⟨⟨u,l,h1,kD,rfl⟩,fun e=>fY (h.inj u v l L h1 nf kD e.1 e.2)⟩
 have hs:Step H.length c H w (c.set v (g+1) L') (H.set v (.row t (g+1) kW)) w':={
  os:=hg.1
  tape:=hg.2.1
  output:=hg.2.2.1
  size:=hg.2.2.2
  RT:=rfl
  Fm:=fun _ h=>h
  Fn:=fun _ h=>.inl h
  kept:=fun b hb hn=>EN b hb fun e=>hn ⟨v,L,nf,e.1,e.2.symm⟩
  old:=fun u k l _ hu=>Qv h ht u k l hu
  own:=fun b hb=>by
   rcases oM b hb with⟨kD,rfl⟩|⟨hb,_⟩
   ·rcases(vC kD).1 with h1|⟨h1,h2⟩
    ·exact .inl h1
    ·exact .inr ⟨v,L,nf,h1,h2.symm⟩
   ·exact .inr hb }
 have hr:∀ u d,eP c w u d→eP (c.set v (g+1) L') w' u d:=fun u d hd=>hd.nA h.toHeapOK hs
 refine⟨{
  inj:=fun u u' l l' h1 h2 h5 h6 he=>by
   rcases kN u l h1 with⟨rfl,rfl⟩|⟨n1,b1⟩<;>rcases kN u' l' h2 with⟨rfl,rfl⟩|⟨n2,b2⟩
   ·rfl
   ·exfalso
    have fj:=h.lt l'.b ⟨u',l',b2,h6,rfl⟩
    rcases(vC h5).1 with h7|⟨h7,h8⟩
    ·omega
    ·exact n2 (h.inj u' u l' L b2 nf h6 h7 (by omega))
   ·exfalso
    have fj:=h.lt l.b ⟨u,l,b1,h5,rfl⟩
    rcases(vC h6).1 with h7|⟨h7,h8⟩
    ·omega
    ·exact n1 (h.inj u u' l L b1 nf h5 h7 (by omega))
   ·exact h.inj u u' l l' b1 b2 h5 h6 he
  lt:=fun b hb=>by
   rcases oM b hb with⟨kD,rfl⟩|⟨hb,_⟩
   ·exact(vC kD).2
   ·exact aK (h.lt b hb) hg.2.2.2
  nF:=fun b hb hF=>by
   rcases oM b hb with⟨kD,rfl⟩|⟨hb,_⟩
   ·rcases(vC kD).1 with h7|⟨h7,h8⟩
    ·have:=h.iQ _ hF;omega
    ·exact UG _ hF ⟨h7,h8⟩
   ·exact h.nF b hb hF
  iQ:=fun b hb=>aK (h.iQ b hb) hg.2.2.2
  out:=fun u k hu=>by
   simp only[bN]at hu
   rw[Ctx.qC _ _ (by rintro⟨rfl,_⟩;omega)];exact h.out u k hu
  jU:=fun u o k ho hk=>by
   rw[oB gL]at ho
   split at ho
   ·rename_i e
    cases ho;subst e
    rcases hk with hk|⟨_,hk⟩
    ·cases hk
    ·simp only[Ob.gen]at hk
     rw[Ctx.qC _ _ (by rintro⟨_,rfl⟩;omega)];exact h.jU u _ k hv (.inr ⟨rfl,by simp only[Ob.gen];omega⟩)
   ·rename_i e
    rw[Ctx.qC _ _ (fun h=>e h.1)]
    exact h.jU u o k ho hk
  ob:=fun u o ho=>by
   rw[oB gL]at ho
   split at ho
   ·rename_i e
    cases ho;subst e
    simp only[Ob.gen]
    rw[Ctx.py]
    exact ga hr
   ·rename_i fY
    rw[Ctx.qC _ _ (fun h=>fY h.1)]
    exact fJ.mz (c:=c) (c':=c.set v (g+1) L') rfl hr (fun l hl jm hd=>EN _ (h.lt _ ⟨u,l,⟨o,ho,hd,hl⟩,jm,rfl⟩) fun e=>fY (h.inj u v l L ⟨o,ho,hd,hl⟩ nf jm e.1 e.2)) (h.ob u o ho)
  gl:=fun g' cs vj=>by
   obtain⟨fE,qo⟩:=h.gl g' cs vj
   exact⟨fE,hr _ _ qo⟩
  rt:=h.rt },hs⟩
theorem JG{G:GT}{c:Ctx}{H:U}{w w':World}(h:e9 G c H w){v g:Nat}{t:TypeId}{cs:List D}(hv:H[v]? = some (.row t g cs)){L:Loc}(eU:c.ι v g=some L)(L':Loc)(gg:L'.ij=false)
  (hg:(w'.os=w.os∧w.drawn≤w'.drawn)∧w'.tape=w.tape∧w'.output=w.output∧w.heap.size≤w'.heap.size) (EN:∀ b,b<w.heap.size→¬ (L.ij=false∧b=L.b)→w'.heap[b]? = w.heap[b]?)
  (vC:(w.heap.size≤L'.b∨(L.ij=false∧L'.b=L.b))∧L'.b<w'.heap.size)
  (arr:Array Value) (kY:w'.heap[L'.b]? = some (.cells arr t (0,0))) (jO:L'.top=arr.size) (kW:List D) (hlen:L'.base+kW.length≤L'.top)
  (hc:∀ (i:Nat) (d:D),kW[i]? = some d→∃ u,arr[L'.base+i]? = some u∧u.oneCell'=true∧eP c w u d) :
  e9 G (c.set v (g+1) L') (H.set v (.row t (g+1) kW)) w'∧Step H.length c H w (c.set v (g+1) L') (H.set v (.row t (g+1) kW)) w':=by
 refine O6 h hv eU L' hg EN (fun _=>vC) kW fun hr=>?_
 simp only[fJ,gg]
 refine⟨arr,kY,jO,hlen,fun i d hd=>?_⟩
 obtain⟨x,ni,kj,sD⟩:=hc i d hd
 exact⟨x,ni,kj,hr _ _ sD⟩
theorem Sc{G:GT}{c:Ctx}{H:U}{w:World}(h:e9 G c H w){v g:Nat}{t:TypeId}{cs:List D}(hv:H[v]? = some (.row t g cs)){L:Loc}(eU:c.ι v g=some L) :
  e9 G (c.set v (g+1) L) (H.set v (.row t (g+1) [])) w∧Step H.length c H w (c.set v (g+1) L) (H.set v (.row t (g+1) [])) w:=by
 refine O6 h hv eU L ⟨⟨rfl,Nat.le_refl _⟩,rfl,rfl,Nat.le_refl _⟩ (fun _ _ _=>rfl) (fun kD=>⟨.inr ⟨kD,rfl⟩,h.lt _ ⟨v,L,⟨_,hv,rfl,eU⟩,kD,rfl⟩⟩) [] fun _=>?_
 have h0:=h.ob v _ hv
 simp only[Ob.gen]at h0
 rw[eU]at h0
 simp only[fJ]at h0 ⊢
 split
 ·simp
 ·rename_i kD
  simp only[kD]at h0
  obtain⟨arr,h1,h2,h3,_⟩:=h0
  exact⟨arr,h1,h2,by simp;omega,by simp⟩
theorem J7{t u ty e:TypeId}{i:TypeInfo}{zv:Value}(ht:P.underlying t=some (.slice e))(hu:∃ e',P.underlying u=some (.slice e'))(hi:P.info? e=some i)(hz:i.zero=some zv)
  (b:Option Addr) (lR qB:Nat) (y:Value) (yb:Option Addr) (n yc:Nat) (hy:y = .slice yb n yc) (Pp news:List Value)
  (hold:(Builtin.firstCells i.size lR (.slice b lR qB)).run P w.drew = .ok Pp.toArray w.drew) (kC:(Builtin.firstCells i.size n y).run P w.drew = .ok news.toArray w.drew)
  (hg:qB<lR+n) (wX:lR+n≤9223372036854775807) (hb:(lR+n)*i.bytes≤140737488355328) :
  (Builtin.append_ #[t,u] ty #[.slice b lR qB,y]).run P w = .ok (.slice (some ⟨w.heap.size,0,none⟩) (lR+n) (grownCap w (lR+n) qB e))
    (w.drew.alloc (.cells (Pp.toArray++news.toArray++Builtin.zeroCells zv.cells (grownCap w (lR+n) qB e-(lR+n))) e)):=by
 subst hy
 obtain⟨e',hu⟩:=hu
 have hn:¬ (lR+n≤qB):=by omega
 have M8:¬ (9223372036854775807<((lR:Int)+(n:Int))):=by omega
 have HQ:¬ (281474976710656<Builtin.nextslicecap (lR+n) qB*i.bytes):=by have:=growslice_fits hg hb;omega
 simp[Builtin.append_,run_underlying ht,run_underlying hu,sizeOf,typeInfo,zeroValue,hi,hz,Builtin.lenOf,hn,M8,HQ,Question.forced,newRow,grownCap,hold,kC]
 congr 2
 apply ea
 simp[bt]
theorem ab7{t u ty e:TypeId}{i:TypeInfo}(ht:P.underlying t=some (.slice e))(hu:∃ e',P.underlying u=some (.slice e'))(hi:P.info? e=some i)
  (b o:Nat) (lR qB:Nat) (y:Value) (yb:Option Addr) (n yc:Nat) (hy:y = .slice yb n yc) (news:List Value) (arr:Array Value) (hg:w.heap[b]? = some (.cells arr e (0,0)))
  (kC:(Builtin.firstCells i.size n y).run P w = .ok news.toArray w) (h1:∀ v∈news,v.oneCell'=true) (z1:lR+n≤qB) (kB:o+lR*i.size+news.length≤arr.size) :
  (Builtin.append_ #[t,u] ty #[.slice (some ⟨b,o,none⟩) lR qB,y]).run P w = .ok (.slice (some ⟨b,o,none⟩) (lR+n) qB)
    (w.setRow b (arr.toList.take (o+lR*i.size)++news++arr.toList.drop (o+lR*i.size+news.length)).toArray):=by
 subst hy
 obtain⟨e',hu⟩:=hu
 have eX:=run_storeCells_at P b (o+lR*i.size) e news 0 arr w hg (by simpa using kB) h1
 simp only[bQ]at eX
 simp[Builtin.append_,run_underlying ht,run_underlying hu,sizeOf,typeInfo,hi,Builtin.lenOf,z1,kC,Addr.add_lit,eX]
theorem HB{sz:Nat}{w':World}{yb:Option Addr}{yc n:Nat}{vs:List Value}(hl:vs.length=n*sz)(my:yb=none→n=0)(hc:∀ ad,yb=some ad→∀ (j:Nat) (v:Value),vs[j]? = some v→w'.cell? (ad.add j)=some v) :
  (Builtin.firstCells sz n (.slice yb n yc)).run P w' = .ok vs.toArray w':=by
 cases yb with
 | none=>
  have:=my rfl
  subst this
  have:vs = []:=a8 (by simpa using hl)
  subst this
  exact run_firstCells_none w' sz 0 0 yc
 | some ad=>exact run_firstCells_some w' sz n ad n yc vs hl (hc ad rfl)
theorem M3(w:World)(o:Obj):iC w (w.drew.alloc o):=(iC.drew w).trans (iC.alloc _ _)
theorem aaN(h:e9 G c H w){al:Al}(fO:kH H al){t u ty e:TypeId}{i:TypeInfo}{z:List D}(ht:P.underlying t=some (.slice e))(hu:∃ e',P.underlying u=some (.slice e'))(hi:P.info? e=some i)(hz:nC P e=some z)(xx:z.length=i.size)(jd:0<i.size)
  {x y:D} {ux uy:Value} (h1:eP c w ux x) (h2:eP c w uy y) (hk:yK e i.size i.bytes x y H al K):∃ r w',(Builtin.append_ #[t,u] ty #[ux,uy]).run P w = .ok r w'∧gU G c H w K r w':=by
 obtain⟨zv,sE,Fh,pe⟩:=uu hz w
 have Af:i.zero=some zv:=by simpa[hi]using Fh
 have rk:zv.cells.size=i.size:=by have:=(pe c w).len;simp at this;omega
 unfold yK at hk
 split at hk
 ·rename_i ys n nP
  obtain⟨yb,yc,vs,nh,iS,je,N',Ae,Ad⟩:=Kg h jd h2 nP
  have gL:vs.length=n*i.size:=by rw[iS.len,je]
  have kC:∀ w',(∀ b,w'.cell? b=w.cell? b)→(Builtin.firstCells i.size n uy).run P w' = .ok vs.toArray w':=fun w' qp=>by
   rw[nh];exact HB gL Ae (fun ad ha j v hj=>by rw[qp];exact Ad ad ha j v hj)
  split at hk
  ·rename_i v g fG off len
   split at hk
   ·rename_i t' cs fR
    have hv:=pW fR
    dsimp only at hv
    obtain⟨⟨rfl,N2,hlen,mM,wX⟩,hk⟩:=hk
    have U4:=N2.symm
    subst U4
    clear N2
    have Vb:v<H.length:=(ae.1 hv).1
    cases h1 with
    | eN _ _ _ _ _ cap L eU gg iE iW jO=>
     obtain⟨arr,w7,HZ,TE,H6⟩:=uo h hv eU gg
     have EX:Cells c w (((((arr.toList.drop L.base).take cs.length)).drop (off*i.size)).take (len*i.size)) ((cs.drop (off*i.size)).take (len*i.size)):=(H6.drop _).take _
     rw[bg]at jO hlen
     generalize off*i.size=q at *
     by_cases z1:len+n≤cap
     ·have kB:L.base+q+len*i.size+vs.length≤arr.size:=by
       have hm:=bw i.size z1
       rw[bg]at hm
       omega
      have gK:=ab7 (ty:=ty) ht hu hi L.b (L.base+q) len cap uy yb n yc nh vs arr w7 (kC w fun _=>rfl) iS.one z1 kB
      refine⟨_,_,gK,?_⟩
      have gj:(arr.toList.take (L.base+q+len*i.size)++vs++arr.toList.drop (L.base+q+len*i.size+vs.length)).toArray.size=arr.size:=by simp;omega
      obtain⟨m1,m2⟩:=JG (w':=w.setRow L.b (arr.toList.take (L.base+q+len*i.size)++vs++arr.toList.drop (L.base+q+len*i.size+vs.length)).toArray) h hv eU ⟨L.b,L.base+q,L.top,false⟩ rfl
       ⟨⟨rfl,Nat.le_refl _⟩,rfl,rfl,by simp[World.setRow]⟩ (fun b _ hn=>by simp only[World.setRow,bL];rw[if_neg (fun e=>hn ⟨gg,e.symm⟩)])
       ⟨.inr ⟨gg,rfl⟩,by have:=h.lt _ ⟨v,L,⟨_,hv,rfl,eU⟩,gg,rfl⟩;simpa[World.setRow]using this⟩
       _ (setRow_heap w L.b arr _ _ _ w7) (by show L.top=_;rw[HZ,gj]) ((cs.drop q).take (len*i.size)++ys) (by simp only[ay,aT,bn];rw[← iS.len];omega) (fun j d hd=>by
        obtain⟨x,hx,ni,kj⟩:=(EX.append iS).get hd
        refine⟨x,?_,ni,kj⟩
        rw[← hx]
        simp only[cO]
        have ib:(List.take (L.base+q+len*i.size) arr.toList).length=L.base+q+len*i.size:=by simp;omega
        have gS:(List.take (len*i.size) (List.drop q (List.take cs.length (List.drop L.base arr.toList)))).length=len*i.size:=by simp;omega
        by_cases c1:j<len*i.size
        ·rw[ag (by simp;omega),ag (by rw[ib];omega),ag (by rw[gS];omega)]
         simp only[az,aB]
         rw[if_pos (by omega),if_pos (by omega),if_pos (by omega)]
         congr 1;omega
        ·have l7:j<len*i.size+vs.length:=by have:=(ae.1 hx).1;rw[ay,gS]at this;omega
         rw[ag (by rw[ay,ib];omega),ak (by rw[ib];omega),ak (by rw[gS];omega),ib,gS]
         congr 1
         omega)
      refine⟨_,_,_,hk,m1,?_,m2⟩
      have:=eP.eN (c:=c.set v (g+1) ⟨L.b,L.base+q,L.top,false⟩) (w:=w.setRow L.b (arr.toList.take (L.base+q+len*i.size)++vs++arr.toList.drop (L.base+q+len*i.size+vs.length)).toArray) v (g+1) i.size 0 (len+n) cap ⟨L.b,L.base+q,L.top,false⟩ (Ctx.py _ _ _ _) rfl z1 iW (by simp;omega)
      simpa using this
     ·have hold:(Builtin.firstCells i.size len (.slice (some ⟨L.b,L.base+q,none⟩) len cap)).run P w.drew = .ok ((((arr.toList.drop L.base).take cs.length).drop q).take (len*i.size)).toArray w.drew:=by
       refine run_firstCells_some _ _ _ _ _ _ _ (by rw[EX.len];simp;omega) (fun j v hj=>?_)
       rw[az]at hj
       split at hj
       ·rw[aB,az]at hj
        split at hj
        ·rw[aB]at hj
         rw[Addr.add_lit]
         show w.cell? ⟨L.b,L.base+q+j,none⟩=some v
         simp[World.cell?,w7]
         rw[br]
         simpa using hj
        ·cases hj
       ·cases hj
      have gK:=J7 (ty:=ty) ht hu hi Af (some ⟨L.b,L.base+q,none⟩) len cap uy yb n yc nh _ vs hold (kC _ fun _=>rfl) (by omega) wX mM
      refine⟨_,_,gK,?_⟩
      have N1:((((arr.toList.drop L.base).take cs.length).drop q).take (len*i.size)).toArray.size=len*i.size:=by have:=EX.len;simp at this ⊢;omega
      have su:=grownCap_ge w (len+n) cap e
      have mw:=grownCap_le_maxLen w (len+n) cap e (by unfold maxLen;omega)
      obtain⟨m1,m2⟩:=JG (w':=w.drew.alloc (.cells (((((arr.toList.drop L.base).take cs.length).drop q).take (len*i.size)).toArray++vs.toArray++Builtin.zeroCells zv.cells (grownCap w (len+n) cap e-(len+n))) e)) h hv eU
       ⟨w.heap.size,0,grownCap w (len+n) cap e*i.size,false⟩ rfl ⟨⟨rfl,Nat.le_succ _⟩,rfl,rfl,by simp⟩ (fun b hb _=>(M3 w _).kept b hb) ⟨.inl (Nat.le_refl _),by simp⟩
       _ (heap_alloc_new w.drew _) (by
        simp only[cA,N1,dp,gL,size_zeroCells,rk,← bg]
        congr 1;omega) ((cs.drop q).take (len*i.size)++ys) (by
        simp only[ay,aT,bn,je,bj]
        have:=bw i.size su
        rw[bg]at this
        omega) (fun j d hd=>by
        obtain⟨x,hx,ni,kj⟩:=(EX.append iS).get hd
        refine⟨x,?_,ni,kj⟩
        rw[← hx,bj,← bB]
        have fj:=(ae.1 hx).1
        simp only[cU]
        rw[ag (by simpa using fj)])
      refine⟨_,_,_,hk,m1,?_,m2⟩
      have:=eP.eN (c:=c.set v (g+1) ⟨w.heap.size,0,grownCap w (len+n) cap e*i.size,false⟩) (w:=w.drew.alloc (.cells (((((arr.toList.drop L.base).take cs.length).drop q).take (len*i.size)).toArray++vs.toArray++Builtin.zeroCells zv.cells (grownCap w (len+n) cap e-(len+n))) e))
       v (g+1) i.size 0 (len+n) (grownCap w (len+n) cap e) ⟨w.heap.size,0,grownCap w (len+n) cap e*i.size,false⟩ (Ctx.py _ _ _ _) rfl su mw (by simp)
      simpa using this
    | kT _ _ _ _ L eU ad=>
     simp only[bj,bQ,cc,de,aY]at hk mM wX ⊢
     by_cases hn:n=0
     ·subst hn
      have I6:vs = []:=a8 (by simpa using gL)
      have Vr:ys = []:=a8 (by simpa using je)
      subst Vr
      have gK:(Builtin.append_ #[t,u] ty #[.slice ad 0 0,uy]).run P w = .ok (.slice ad 0 0) w:=by
       obtain⟨e',hu⟩:=hu
       have vA:=kC w fun _=>rfl
       rw[I6]at vA
       rw[nh]at vA ⊢
       simp[Builtin.append_,run_underlying ht,run_underlying hu,sizeOf,typeInfo,hi,Builtin.lenOf,vA]
       cases ad<;>simp[storeCells]
      obtain⟨m1,m2⟩:=Sc h hv eU
      exact⟨_,_,gK,_,_,_,hk,m1,.kT v (g+1) i.size 0 L (Ctx.py _ _ _ _) ad,m2⟩
     ·have hold:(Builtin.firstCells i.size 0 (.slice ad 0 0)).run P w.drew = .ok ([]:List Value).toArray w.drew:=HB (by simp) (fun _=>rfl) (fun _ _ j v hj=>by simp at hj)
      have gK:=J7 (w:=w) (ty:=ty) ht hu hi Af ad 0 0 uy yb n yc nh [] vs hold (kC _ fun _=>rfl) (by omega) (by omega) (by simpa using mM)
      simp only[bj]at gK
      refine⟨_,_,gK,?_⟩
      have su:=grownCap_ge w n 0 e
      have mw:=grownCap_le_maxLen w n 0 e (by unfold maxLen;omega)
      obtain⟨m1,m2⟩:=JG (w':=w.drew.alloc (.cells (([]:List Value).toArray++vs.toArray++Builtin.zeroCells zv.cells (grownCap w n 0 e-n)) e)) h hv eU
       ⟨w.heap.size,0,grownCap w n 0 e*i.size,false⟩ rfl ⟨⟨rfl,Nat.le_succ _⟩,rfl,rfl,by simp⟩ (fun b hb _=>(M3 w _).kept b hb) ⟨.inl (Nat.le_refl _),by simp⟩
       _ (heap_alloc_new w.drew _) (by
        simp only[cA,dp,cI,gL,size_zeroCells,rk,bj,← bg]
        congr 1;omega) ys (by
        simp only[je,bj]
        exact bw i.size su) (fun j d hd=>by
        obtain⟨x,hx,ni,kj⟩:=iS.get hd
        refine⟨x,?_,ni,kj⟩
        rw[← hx,bj,← bB]
        have fj:=(ae.1 hx).1
        simp only[cU,aY]
        rw[ag (by simpa using fj)])
      refine⟨_,_,_,hk,m1,?_,m2⟩
      have:=eP.eN (c:=c.set v (g+1) ⟨w.heap.size,0,grownCap w n 0 e*i.size,false⟩) (w:=w.drew.alloc (.cells (([]:List Value).toArray++vs.toArray++Builtin.zeroCells zv.cells (grownCap w n 0 e-n)) e))
       v (g+1) i.size 0 n (grownCap w n 0 e) ⟨w.heap.size,0,grownCap w n 0 e*i.size,false⟩ (Ctx.py _ _ _ _) rfl su mw (by simp)
      simpa using this
   ·exact hk.elim
  ·cases h1 with
   | emp=>
    by_cases hn:n=0
    ·rw[if_pos hn]at hk
     subst hn
     have I6:vs = []:=a8 (by simpa using gL)
     have gK:(Builtin.append_ #[t,u] ty #[.slice none 0 0,uy]).run P w = .ok (.slice none 0 0) w:=by
      obtain⟨e',hu⟩:=hu
      have vA:=kC w fun _=>rfl
      rw[I6]at vA
      rw[nh]at vA ⊢
      simp[Builtin.append_,run_underlying ht,run_underlying hu,sizeOf,typeInfo,hi,Builtin.lenOf,vA]
     exact⟨_,_,gK,.plain h hk .emp⟩
    ·rw[if_neg hn]at hk
     obtain⟨⟨mM,wX⟩,hk⟩:=hk
     have hold:(Builtin.firstCells i.size 0 (.slice none 0 0)).run P w.drew = .ok ([]:List Value).toArray w.drew:=HB (by simp) (fun _=>rfl) (fun _ _ j v hj=>by simp at hj)
     have gK:=J7 (w:=w) (ty:=ty) ht hu hi Af none 0 0 uy yb n yc nh [] vs hold (kC _ fun _=>rfl) (by omega) (by omega) (by simpa using mM)
     simp only[bj]at gK
     refine⟨_,_,gK,?_⟩
     have su:=grownCap_ge w n 0 e
     have mw:=grownCap_le_maxLen w n 0 e (by unfold maxLen;omega)
     have gj:(([]:List Value).toArray++vs.toArray++Builtin.zeroCells zv.cells (grownCap w n 0 e-n)).size=grownCap w n 0 e*i.size:=by
      simp only[cA,dp,cI,gL,size_zeroCells,rk,bj,← bg]
      congr 1;omega
     obtain⟨L,e1,e2,e3,e4,e5,e6⟩:=AD h w.drew (iC.drew w) e vs ys vs.length (([]:List Value).toArray++vs.toArray++Builtin.zeroCells zv.cells (grownCap w n 0 e-n)) (fO _).pX iS (by
      simp only[cU,aY]
      exact List.take_left) (by simp only[cA,dp];omega)
     have hp:=FU (c:=c) (w:=w.drew.alloc (.cells (([]:List Value).toArray++vs.toArray++Builtin.zeroCells zv.cells (grownCap w n 0 e-n)) e)) e1 e3 al.1 0 i.size n (grownCap w n 0 e) (by rw[e4,gj]) su mw
     rw[e2]at hp
     exact⟨_,_,_,hk,e5,hp,e6⟩
  ·exact hk.elim
 ·exact hk.elim
theorem aaY(h:e9 G c H w){t u ty e:TypeId}{sz:Nat}(ht:P.underlying t=some (.slice e))(hs:iU P e=some sz)(jd:0<sz){x y:D}{ux uy:Value}(h1:eP c w ux x)(h2:eP c w uy y)(hk:zb sz x y H K) :
  ∃ r w',(Builtin.copy_ #[t,u] ty #[ux,uy]).run P w = .ok r w'∧gU G c H w K r w':=by
 have key:∀ (ys:List D) (n:Nat),jx sz H y=some (ys,n)→∃ vs yb yc,uy = .slice yb n yc∧Cells c w vs ys∧ys.length=n*sz∧∀ m,m≤n→(Builtin.firstCells sz m uy).run P w = .ok (vs.take (m*sz)).toArray w:=by
  intro ys n nP
  obtain⟨yb,yc,vs,nh,iS,je,N',Ae,Ad⟩:=Kg h jd h2 nP
  refine⟨vs,yb,yc,nh,iS,je,fun m hm=>?_⟩
  have gL:vs.length=n*sz:=by rw[iS.len,je]
  have hle:=bw sz hm
  rw[nh]
  cases yb with
  | none=>
   have:=Ae rfl
   subst this
   have:m=0:=by omega
   subst this
   simp[Builtin.firstCells]
  | some ad=>
   refine run_firstCells_some w sz m ad n yc _ (by simp;omega) (fun j v hj=>?_)
   rw[az]at hj
   split at hj
   ·exact Ad ad rfl j v hj
   ·cases hj
 unfold zb at hk
 split at hk
 ·rename_i v g fG off len ys n nP
  obtain⟨vs,yb,yc,nh,iS,je,Ij⟩:=key ys n nP
  split at hk
  ·rename_i t' cs fR
   have hv:=pW fR
   dsimp only at hv
   obtain⟨⟨rfl,kB⟩,hk⟩:=hk
   have hf:=Ij (min n len) (Nat.min_le_left _ _)
   have hle:min n len*fG≤vs.length:=by rw[iS.len,je];exact bw _ (Nat.min_le_left _ _)
   have aid:min n len*fG≤len*fG:=bw _ (Nat.min_le_right _ _)
   rw[bg]at kB
   cases h1 with
   | eN _ _ _ _ _ cap L eU gg iE iW jO=>
    obtain⟨arr,w7,HZ,TE,H6⟩:=uo h hv eU gg
    have eX:=run_storeCells_at P L.b (L.base+off*fG) t' (vs.take (min n len*fG)) 0 arr w w7 (by simp;omega) (fun v hv=>iS.one v (aM hv))
    simp only[bQ]at eX
    have gK:(Builtin.copy_ #[t,u] ty #[.slice (some ⟨L.b,L.base+off*fG,none⟩) len cap,uy]).run P w = .ok (goInt (min n len:Nat)) (w.setRow L.b (arr.toList.take (L.base+off*fG)++vs.take (min n len*fG)++arr.toList.drop (L.base+off*fG+(vs.take (min n len*fG)).length)).toArray):=by
     rw[nh]at hf ⊢
     have hm:n.min len=min n len:=rfl
     simp[Builtin.copy_,run_underlying ht,Builtin.lenOf,oW hs,hm,hf,eX]
    have gL:(vs.take (min n len*fG)).length=min n len*fG:=by simp;omega
    have Nj:=H6.oC (iS.take (min n len*fG)) (off*fG)
    have Vn:(ys.take (min n len*fG)).length=min n len*fG:=by rw[aT,← iS.len];omega
    obtain⟨m1,m2⟩:=Br h hv eU gg w7 (arr.toList.take (L.base+off*fG)++vs.take (min n len*fG)++arr.toList.drop (L.base+off*fG+(vs.take (min n len*fG)).length)).toArray (by simp;omega) HZ
     (cs.take (off*fG)++ys.take (min n len*fG)++cs.drop (off*fG+min n len*fG)) (by simp only[ay,aT,bn];omega) (fun j d hd=>by
      rw[Vn,gL]at Nj
      obtain⟨x,hx,ni,kj⟩:=Nj.get hd
      refine⟨x,?_,ni,kj⟩
      rw[← hx]
      simp only[cO,gL]
      have ib:(List.take (L.base+off*fG) arr.toList).length=L.base+off*fG:=by simp;omega
      have gS:(List.take (off*fG) (List.take cs.length (List.drop L.base arr.toList))).length=off*fG:=by simp;omega
      by_cases c1:j<off*fG
      ·rw[ag (by simp;omega),ag (by rw[ib];omega),ag (by simp;omega),ag (by rw[gS];omega)]
       simp only[az,aB]
       rw[if_pos (by omega),if_pos c1,if_pos (by omega)]
      ·by_cases c2:j<off*fG+min n len*fG
       ·rw[ag (by rw[ay,ib,gL];omega),ak (by rw[ib];omega),ag (by rw[ay,gS,gL];omega),ak (by rw[gS];omega),ib,gS]
        congr 1
        omega
       ·have l6:j<cs.length:=by have:=(ae.1 hd).1;simp at this;omega
        rw[ak (by rw[ay,ib,gL];omega),ak (by rw[ay,gS,gL];omega)]
        simp only[aB,az,ay,ib,gS,gL]
        rw[if_pos (by omega)]
        congr 1
        omega)
    exact⟨_,_,gK,_,_,c,hk,m1,.val _,m2⟩
   | kT _ _ _ _ L eU ad=>
    have zP:min n 0=0:=eJ n
    simp only[zP,cc,de,aw,bQ,bM]at hk hf
    have nO:H.set v (.row t' g cs)=H:=by
     apply bK
     intro j
     rw[bC]
     have gL:v<H.length:=(ae.1 hv).1
     split
     ·rename_i e
      subst e
      first|(rw[if_pos gL];exact hv.symm)|exact hv.symm
     ·rfl
    rw[nO]at hk
    refine⟨goInt 0,w,?_,.plain h hk (.val _)⟩
    rw[nh]at hf ⊢
    have hm:n.min 0=0:=eJ n
    simp[Builtin.copy_,run_underlying ht,Builtin.lenOf,oW hs,hm,hf]
    cases ad<;>simp[storeCells]
  ·exact hk.elim
 ·rename_i q nP
  obtain⟨ys,n⟩:=q
  obtain⟨vs,yb,yc,nh,iS,je,Ij⟩:=key ys n nP
  cases h1 with
  | emp=>
   have hf:=Ij 0 (Nat.zero_le _)
   refine⟨goInt 0,w,?_,.plain h hk (.val _)⟩
   rw[nh]at hf ⊢
   have hm:n.min 0=0:=eJ n
   simp only[cc,de]at hf
   simp[Builtin.copy_,run_underlying ht,Builtin.lenOf,oW hs,hm,hf]
 ·exact hk.elim
end
end Go.AL
namespace Go.AL
open Go
section
variable{P:Program}{G:GT}{c:Ctx}{H:U}{w:World}{K:ik}{env:fD}{a:Act}
theorem Ot{x:D}{kv u:Value}(hr:eP c w u x)(h:keyOf x=some kv):u=kv:=by
 unfold keyOf at h
 split at h
 ·cases h;cases hr;rfl
 ·cases h;cases hr;rfl
 ·cases h;cases hr;rfl
 ·rename_i cs
  simp only[ai]at h
  obtain⟨l,hl,rfl⟩:=h
  cases hr with
  | agg vs _ hlen _ h1=>
   have key:∀ (cs:List D) (vs l:List Value),Ao cs=some l→vs.length=cs.length→(∀ (i:Nat) (v:Value) (d:D),vs[i]? = some v→cs[i]? = some d→eP c w v d)→vs=l:=by
    intro cs
    induction cs with
    | nil=>intro vs l hl hlen _;simp[Ao]at hl;subst hl;exact a8 (by simpa using hlen)
    | cons d cs ih=>
     intro vs l hl hlen h1
     cases vs with
     | nil=>simp at hlen
     | cons v vs=>
      unfold Ao at hl
      split at hl
      ·rename_i heq;cases heq
      ·rename_i k n r heq
       cases heq
       simp only[ai]at hl
       obtain⟨l',kO,rfl⟩:=hl
       have h0:=h1 0 v _ rfl rfl
       cases h0
       rw[ih vs l' kO (by simpa using hlen) (fun i v d hv hd=>h1 (i+1) v d (by simpa using hv) (by simpa using hd))]
      ·cases hl
   rw[key cs vs l hl hlen h1]
 ·cases h
theorem Ko{t:TypeId}{kk:KK}(h:rm P t=some kk):∃ d,P.underlying t=some d∧((∃ k,d = .int k∧kk = .int k)∨(d = .string∧kk = .str)∨(d = .bool∧kk = .bool)):=by
 unfold rm at h
 split at h
 ·rename_i k hu;cases h;exact⟨_,hu,.inl ⟨k,rfl,rfl⟩⟩
 ·rename_i hu;cases h;exact⟨_,hu,.inr (.inl ⟨rfl,rfl⟩)⟩
 ·rename_i hu;cases h;exact⟨_,hu,.inr (.inr ⟨rfl,rfl⟩)⟩
 ·cases h
theorem run_checkKey{t:TypeId}{kk:KK}(h:rm P t=some kk)(b:Bool){kv:Value}(_hk:kk.has kv=true)(w:World):(Instr.checkKey b 10000 t kv).run P w = .ok () w:=by
 obtain⟨d,hd,hc⟩:=Ko h
 unfold Instr.checkKey
 rcases hc with⟨k,rfl,rfl⟩|⟨rfl,rfl⟩|⟨rfl,rfl⟩<;>simp only[Sem.run_bind,run_underlying hd,Result.andThen_ok]<;>rfl
def qe(kv:Value):List MapEntry→Nat→Option (Nat×Value)
 | [],_=>none
 | e::es,i=>if ox kv e.key then some (i,e.val)else qe kv es (i+1)
theorem SV{d:TypeDesc}{kk:KK}(hc:(∃ k,d = .int k∧kk = .int k)∨(d = .string∧kk = .str)∨(d = .bool∧kk = .bool)){kv:Value}(hk:kk.has kv=true) :
  ∀ (es:List MapEntry) (i:Nat),(∀ e∈es,kk.has e.key=true)→Instr.findNow d kv es i=some (qe kv es i):=by
 intro es
 induction es with
 | nil=>intro i _;rfl
 | cons e es ih=>
  intro i h
  have he:=h e (by simp)
  have Jd:=ih (i+1) (fun e he=>h e (by simp[he]))
  unfold Instr.findNow qe
  have hs:Instr.sameNow d kv e.key=some (ox kv e.key):=by
   obtain⟨key,val,born⟩:=e
   rcases hc with⟨k,rfl,rfl⟩|⟨rfl,rfl⟩|⟨rfl,rfl⟩<;>cases kv<;>simp[KK.has]at hk<;>cases key<;>simp[KK.has]at he<;>simp[Instr.sameNow,ox]
   subst hk;subst he;simp
  rw[hs]
  cases ox kv e.key
  ·simp only[Jd];rfl
  ·rfl
theorem run_findKey{t:TypeId}{kk:KK}(h:rm P t=some kk){kv:Value}(hk:kk.has kv=true)(es:List MapEntry)(sm:∀ e∈es,kk.has e.key=true)(w:World) :
  (Instr.findKey t kv es).run P w = .ok (qe kv es 0) w:=by
 obtain⟨d,hd,hc⟩:=Ko h
 simp[Instr.findKey,run_underlying hd,SV hc hk es 0 sm]
theorem OY{arr:Array MapEntry}{clock:Nat}{es:List (Value×D)}(hm:yG c w arr clock es){kk:KK}(hk:∀ x∈es,kk.has x.1=true):∀ e∈arr.toList,kk.has e.key=true:=by
 intro e he
 obtain⟨i,hi⟩:=aD.1 he
 have hl:i<es.length:=by rw[← hm.1];have:=(ae.1 hi).1;simpa using this
 obtain⟨h1,_⟩:=hm.2.1 i e es[i] (by simpa using hi) (by simp[hl])
 rw[h1]
 exact hk _ (bH hl)
theorem HA(kv:Value):∀ (l:List MapEntry) (es:List (Value×D)) (i:Nat),l.length=es.length →
  (∀ (j:Nat) (e:MapEntry) (x:Value×D),l[j]? = some e→es[j]? = some x→e.key=x.1∧eP c w e.val x.2) →
  (qe kv l i=none∧ny es kv=none∧∀ y,kl es kv y=es ++ [(kv,y)]) ∨
  (∃ j v d,qe kv l i=some (i+j,v)∧ny es kv=some d∧eP c w v d∧j<l.length∧(∀ y,kl es kv y=es.set j (kv,y))∧∃ e,l[j]? = some e∧ox kv e.key=true)
 | [],[],i,_,_=>.inl ⟨rfl,rfl,fun _=>rfl⟩
 | e::l,(k,d)::es,i,hl,h=>by
  obtain⟨hk,hr⟩:=h 0 e (k,d) rfl rfl
  dsimp only at hk hr
  by_cases he:ox kv e.key=true
  ·refine .inr ⟨0,e.val,d,by simp[qe,he],by simp[ny,← hk,he],hr,by simp,fun y=>by simp[kl,← hk,he],e,rfl,he⟩
  ·have vi:ox kv k=false:=by rw[← hk];simpa using he
   rcases HA kv l es (i+1) (by simpa using hl) (fun j e x he hx=>h (j+1) e x (by simpa using he) (by simpa using hx))with⟨h1,h2,h3⟩|⟨j,v,d',h1,h2,h3,h4,h5,e',h6,h7⟩
   ·exact .inl ⟨by simp[qe,he,h1],by simp[ny,vi,h2],fun y=>by simp[kl,vi,h3]⟩
   ·exact .inr ⟨j+1,v,d',by simp[qe,he,h1];omega,by simp[ny,vi,h2],h3,by simp;omega,fun y=>by simp[kl,vi,h5],e',by simpa using h6,h7⟩
theorem aa9(h:e9 G c H w){t k e:TypeId}{kk:KK}{z:D}(hu:P.underlying t=some (.map k e))(jc:rm P k=some kk)(hz:Ku P e=some z)(ok:Bool){m x:D}{u v:Value}(h1:eP c w u m)(h2:eP c w v x)
  (hk:Au kk z ok m x H K):∃ r,(Instr.lookup t u v ok).run P w = .ok r w∧gU G c H w K r w:=by
 have hzero:∃ zv,(zeroValue e).run P w = .ok zv w∧eP c w zv z:=by
  unfold Ku at hz
  cases hi:P.info? e with
  | none=>simp[hi]at hz
  | some i=>
   simp only[hi,Option.bind_some]at hz
   cases Ja:i.zero with
   | none=>simp[Ja]at hz
   | some zv=>
    simp only[Ja,Option.bind_some]at hz
    exact⟨zv,by simp[zeroValue,run_typeInfo hi,Ja],PK hz⟩
 obtain⟨zv,sE,Oa⟩:=hzero
 unfold Au at hk
 split at hk
 ·rename_i v0 kv Iw
  split at hk
  ·rename_i oT es sm
   obtain⟨rfl,vo,hk⟩:=hk
   have hv:=Ot h2 Iw
   subst hv
   cases h1 with
   | omap _ L eU gg=>
    have ga:=h.ob v0 _ (ua sm)
    simp only[Ob.gen]at ga
    rw[eU]at ga
    simp only[fJ]at ga
    obtain⟨_,EO,arr,clock,hm,l8⟩:=ga
    have EJ:=run_findKey jc vo arr.toList (OY l8 EO) w
    have q5:=run_checkKey (w:=w) jc arr.isEmpty vo
    have gK:(Instr.lookup t (.map (some L.b)) v ok).run P w=((match qe v arr.toList 0 with
      | some (_,v)=>Result.ok (v,true) w
      | none=>Result.ok (zv,false) w:Result (Value×Bool)).andThen fun p w=>.ok (if ok then .tuple #[p.1,.bool p.2]else p.1) w):=by
     have zH:(getObj L.b).run P w = .ok (.map arr clock) w:=by simp[getObj,Sem.run,hm]
     simp only[Instr.lookup,Sem.run_bind,run_underlying hu,Result.andThen_ok,zH,Sem.run_pure,q5,EJ]
     cases qe v arr.toList 0 with
     | none=>simp[sE]
     | some p=>obtain⟨_,_⟩:=p;simp
    rcases HA (c:=c) (w:=w) v arr.toList es 0 (by simpa using l8.1) (fun j e x he hx=>let ⟨a,b,_⟩:=l8.2.1 j e x (by simpa using he) hx;⟨a,b⟩)with⟨f1,f2,_⟩|⟨j,val,d,f1,f2,f3,_⟩
    ·rw[f1]at gK
     rw[f2]at hk
     refine⟨_,gK,.plain h hk ?_⟩
     cases ok
     ·exact Oa
     ·exact .tup [zv,.bool false] [z,.val (.bool false)] rfl (fun i v d hv hd=>by
       match i with
       | 0=>simp at hv hd;subst hv;subst hd;exact Oa
       | 1=>simp at hv hd;subst hv;subst hd;exact .val _
       | i+2=>simp at hv)
    ·rw[f1]at gK
     rw[f2]at hk
     refine⟨_,gK,.plain h hk ?_⟩
     cases ok
     ·exact f3
     ·exact .tup [val,.bool true] [d,.val (.bool true)] rfl (fun i v d' hv hd=>by
       match i with
       | 0=>simp at hv hd;subst hv;subst hd;exact f3
       | 1=>simp at hv hd;subst hv;subst hd;exact .val _
       | i+2=>simp at hv)
  ·exact hk.elim
 ·exact hk.elim
theorem aca{kk:KK}(jc:kk = .str∨kk = .bool∨∃ k,kk = .int k){old new:Value}(h1:kk.has new=true)(h2:kk.has old=true)(h:ox new old=true):Instr.sameBits 10000 old new=true:=by
 rcases jc with rfl|rfl|⟨k,rfl⟩<;>cases new<;>simp[KK.has]at h1<;>cases old<;>simp[KK.has]at h2<;>simp[ox]at h<;>simp[Instr.sameBits]
 ·rename_i x y
  obtain⟨x⟩:=x
  obtain⟨y⟩:=y
  have h':(x == y)=true:=h
  have e:=eq_of_beq h'
  subst e
  exact h
 ·exact h.symm
 ·exact⟨h.1.symm,h.2.symm⟩
theorem Bq{G:GT}{c:Ctx}{H:U}{w:World}(h:e9 G c H w){v:Nat}{ob ob':Ob}(hv:H[v]? = some ob)(ha:ob.alive=true)(od:ob'.alive=true)(EL:ob'.gen=ob.gen){L:Loc}(eU:c.ι v ob.gen=some L)(gg:L.ij=false)(o':Obj)
  (ga:∀ w',w'.heap[L.b]? = some o'→(∀ u d,eP c w u d→eP c w' u d)→fJ c w' (some L) ob') :
  e9 G c (H.set v ob') { w with heap:=w.heap.setIfInBounds L.b o' }∧Step H.length c H w c (H.set v ob') { w with heap:=w.heap.setIfInBounds L.b o' }:=by
 have fj:=h.lt _ ⟨v,L,⟨ob,hv,ha,eU⟩,gg,rfl⟩
 refine QK (w':={ w with heap:=w.heap.setIfInBounds L.b o' }) h hv ha od EL eU gg ⟨rfl,Nat.le_refl _⟩ rfl rfl (by simp) (fun b hb=>?_) (ga _ (by simp[fj]))
 rw[bE (dB hb)]
theorem WT{es:List (Value×D)}{kv:Value}{y:D}:∀ x∈kl es kv y,x∈es∨x=(kv,y):=by
 induction es with
 | nil=>intro x hx;simp[kl]at hx;exact .inr hx
 | cons e es ih=>
  intro x hx
  obtain⟨k,d⟩:=e
  simp only[kl]at hx
  split at hx
  ·rcases au.1 hx with rfl|hx
   ·exact .inr rfl
   ·exact .inl (by simp[hx])
  ·rcases au.1 hx with rfl|hx
   ·exact .inl (by simp)
   ·rcases ih x hx with h|h
    ·exact .inl (by simp[h])
    ·exact .inr h
theorem Ph(h:e9 G c H w){t k e:TypeId}{kk:KK}(hu:P.underlying t=some (.map k e))(jc:rm P k=some kk){m x y:D}{u v vy:Value}(h1:eP c w u m)(h2:eP c w v x)(h3:eP c w vy y)
  (hk:Aw kk m x y H K):∃ w',(Instr.mapUpdate t u v vy).run P w = .ok () w'∧gU G c H w K undef w':=by
 have UM:kk = .str∨kk = .bool∨∃ k,kk = .int k:=by
  obtain⟨d,_,hc⟩:=Ko jc
  rcases hc with⟨k,_,rfl⟩|⟨_,rfl⟩|⟨_,rfl⟩
  ·exact .inr (.inr ⟨k,rfl⟩)
  ·exact .inl rfl
  ·exact .inr (.inl rfl)
 unfold Aw at hk
 split at hk
 ·rename_i v0 kv Iw
  split at hk
  ·rename_i oT es sm
   obtain⟨rfl,vo,hk⟩:=hk
   have hv:=Ot h2 Iw
   subst hv
   cases h1 with
   | omap _ L eU gg=>
    have ga:=h.ob v0 _ (ua sm)
    simp only[Ob.gen]at ga
    rw[eU]at ga
    simp only[fJ]at ga
    obtain⟨_,EO,arr,clock,hm,l8⟩:=ga
    have Nf:=OY l8 EO
    have EJ:=run_findKey jc vo arr.toList Nf w
    have q5:=run_checkKey (w:=w) jc false vo
    have NB:∀ y',∀ x∈kl es v y',oT.has x.1=true:=fun y' x hx=>by
     rcases WT x hx with h|rfl
     ·exact EO x h
     ·exact vo
    rcases HA (c:=c) (w:=w) v arr.toList es 0 (by simpa using l8.1) (fun j e x he hx=>let ⟨a,b,_⟩:=l8.2.1 j e x (by simpa using he) hx;⟨a,b⟩)with⟨f1,f2,f3⟩|⟨j,val,d,f1,f2,_,f4,f5,e',f6,f7⟩
    ·have gK:(Instr.mapUpdate t (.map (some L.b)) v vy).run P w = .ok () { w with heap:=w.heap.setIfInBounds L.b (.map (arr.push { key:=v,val:=vy,born:=clock }) (clock+1)) }:=by
      have zH:(getObj L.b).run P w = .ok (.map arr clock) w:=by simp[getObj,Sem.run,hm]
      simp only[Instr.mapUpdate,Sem.run_bind,run_underlying hu,Result.andThen_ok,zH,q5,EJ,f1]
      simp[setObj,Sem.run,hm]
     obtain⟨m1,m2⟩:=Bq h (ua sm) rfl rfl rfl eU gg (.map (arr.push { key:=v,val:=vy,born:=clock }) (clock+1)) (ob':=.map oT (kl es v y)) (by
      intro w' qp hr
      simp only[fJ]
      refine⟨gg,NB y,_,_,qp,?_⟩
      rw[f3]
      refine⟨by simp[l8.1],fun i e x he hx=>?_,by simp[l8.2.2]⟩
      rw[Array.getElem?_push]at he
      split at he
      ·rename_i hi
       cases he
       rw[ak (by rw[hi,l8.1];exact Nat.le_refl _),hi,l8.1]at hx
       simp at hx
       subst hx
       exact⟨rfl,hr _ _ h3,by rw[hi,l8.1,l8.2.2]⟩
      ·have hi:i<es.length:=by rw[← l8.1];exact(aN.1 he).1
       rw[ag hi]at hx
       obtain⟨p,q,r⟩:=l8.2.1 i e x he hx
       exact⟨p,hr _ _ q,r⟩)
     exact⟨_,gK,.any,_,c,hk,m1,.any _,m2⟩
    ·have l7:j<arr.size:=by simpa using f4
     have Ir:arr[j]? = some e':=by simpa using f6
     have Ul:oT.has e'.key=true:=Nf e' (aW f6)
     have U1:(Instr.keyThatStays e'.key v).run P w = .ok v w:=by
      simp[Instr.keyThatStays,aca UM vo Ul f7]
     have gK:(Instr.mapUpdate t (.map (some L.b)) v vy).run P w = .ok () { w with heap:=w.heap.setIfInBounds L.b (.map (arr.modify j fun e=>{ e with key:=v,val:=vy }) clock) }:=by
      have zH:(getObj L.b).run P w = .ok (.map arr clock) w:=by simp[getObj,Sem.run,hm]
      simp only[Instr.mapUpdate,Sem.run_bind,run_underlying hu,Result.andThen_ok,zH,q5,EJ,f1,bj,Ir,aX,aS,U1]
      simp[setObj,Sem.run,hm]
     obtain⟨m1,m2⟩:=Bq h (ua sm) rfl rfl rfl eU gg (.map (arr.modify j fun e=>{ e with key:=v,val:=vy }) clock) (ob':=.map oT (kl es v y)) (by
      intro w' qp hr
      simp only[fJ]
      refine⟨gg,NB y,_,_,qp,?_⟩
      rw[f5]
      refine⟨by simp[l8.1],fun i e x he hx=>?_,by simp[l8.2.2]⟩
      ·rw[bL]at he
       rw[bC]at hx
       split at he
       ·rename_i hi
        subst hi
        rw[if_pos rfl]at hx
        simp only[ai]at he
        obtain⟨e0,h0,rfl⟩:=he
        split at hx
        ·cases hx
         have hj:j<es.length:=by rw[← l8.1];exact l7
         exact⟨rfl,hr _ _ h3,(l8.2.1 j e0 es[j] h0 (by simp[hj])).2.2⟩
        ·cases hx
       ·rename_i hi
        rw[if_neg hi]at hx
        obtain⟨p,q,r⟩:=l8.2.1 i e x he hx
        exact⟨p,hr _ _ q,r⟩)
     exact⟨_,gK,.any,_,c,hk,m1,.any _,m2⟩
  ·exact hk.elim
 ·exact hk.elim
end
end Go.AL
namespace Go.AL
open Go
section
variable{P:Program}{G:GT}{c:Ctx}{H:U}{w:World}{K:ik}{env:fD}{a:Act}
theorem Wi{t:TypeId}{l:mi}(hl:vH P t=some l)(d:Nat){x y:D}{u v:Value}(h1:eP c w u x)(h2:eP c w v y){r:Bool}(h:p8 l x y=some r):(Op.equalIn (d+1) t u v).run P w = .ok r w:=by
 unfold p8 at h
 split at h
 ·rename_i k m k' n
  cases h1;cases h2
  split at h
  ·rename_i e
   subst e
   cases h
   unfold vH at hl
   split at hl
   ·rename_i k0 hu;exact run_equalIn_int w d t k k0 m n hu
   ·cases hl
   ·cases hl
   ·cases hl
  ·cases h
 ·cases h1;cases h2
  cases h
  unfold vH at hl
  split at hl
  ·cases hl
  ·cases hl
  ·rename_i hu;exact run_equalIn_bool' w d t _ _ hu
  ·cases hl
 ·cases h1;cases h2
  cases h
  rename_i p q
  unfold vH at hl
  split at hl
  ·cases hl
  ·rename_i hu
   have:=run_equalIn_string (P:=P) w d t p q hu
   rw[ByteArray.toList_eq,ByteArray.toList_eq]at this
   exact this
  ·cases hl
  ·cases hl
 ·cases h
theorem Wh{t:TypeId}{l:mi}(hl:vH P t=some l):mG P t=some false:=by
 unfold vH at hl
 unfold mG
 split at hl<;>first|(rename_i hu;simp[hu])|(rename_i k hu;simp[hu])|cases hl
theorem MB(d:Nat){vs us:List Value}{xs ys:List D}(hx:Cells c w vs xs)(hy:Cells c w us ys):∀ (fs:List Field) (i:Nat) (ls:List mi) (r:Bool),D9 P i fs=some ls→lV ls (xs.drop i) (ys.drop i)=some r →
  (Op.eqFields (d+1) vs.toArray us.toArray fs).run P w = .ok r w
 | [],i,ls,r,he,hc=>by
  cases he
  unfold lV at hc
  split at hc
  ·cases hc;rfl
  ·rename_i heq _ _;cases heq
  ·cases hc
 | f::fs,i,ls,r,he,hc=>by
  simp only[D9]at he
  split at he
  ·rename_i l WC hl zO
   split at he
   ·rename_i hJ
    obtain⟨ng,UD⟩:=hJ
    cases he
    cases tU:xs.drop i with
    | nil=>rw[tU]at hc;simp[lV]at hc
    | cons x xr=>
     cases Fg:ys.drop i with
     | nil=>rw[tU,Fg]at hc;simp[lV]at hc
     | cons y yr=>
      rw[tU,Fg]at hc
      simp only[lV]at hc
      split at hc
      ·rename_i p q hp hq
       cases hc
       have Vf:xs[i]? = some x:=by have:=congrArg (·[0]?) tU;simpa using this
       have Vm:ys[i]? = some y:=by have:=congrArg (·[0]?) Fg;simpa using this
       have Vh:xs.drop (i+1)=xr:=by rw[← dg,tU];rfl
       have Vp:ys.drop (i+1)=yr:=by rw[← dg,Fg];rfl
       obtain⟨u,hu,_,U7⟩:=hx.get Vf
       obtain⟨v,hv,_,I5⟩:=hy.get Vm
       have ih:=MB d hx hy fs (i+1) WC q zO (by rw[Vh,Vp];exact hq)
       have hle:=Wi (w:=w) hl d U7 I5 hp
       have ha:=A4 (Wh hl) w
       have IJ:(part f.type vs.toArray f.offset).run P w = .ok u w:=by simp[part,ha,ng,hu]
       have xi:(part f.type us.toArray f.offset).run P w = .ok v w:=by simp[part,ha,ng,hv]
       simp only[Op.eqFields,if_pos UD,Sem.run_bind,IJ,xi,Result.andThen_ok,hle,Sem.run_ite,ih]
       cases p<;>simp
      ·cases hc
   ·cases he
  ·cases he
theorem Pg(h:e9 G c H w){t:TypeId}{ls:List mi}(ht:D' P t=some ls)(neg:Bool){x y:D}{u v:Value}(h1:eP c w u x)(h2:eP c w v y)(hk:tv true ls neg x y H K)(xo yo:Operand) :
  ∃ r,(do eqGuard (if neg then .neq else .eql) t xo yo u v;binOp (if neg then .neq else .eql) t u v).run P w = .ok r w∧gU G c H w K r w:=by
 unfold D' at ht
 split at ht
 ·rename_i fs hu
  split at ht
  ·rename_i hJ
   have hf:P.underlying t=some (.struct (P.fieldsOf t)):=by unfold Program.fieldsOf;rw[hu]
   have T7:P.fieldsOf t=fs:=by unfold Program.fieldsOf;rw[hu]
   have hx:∃ cs ds,x = .agg cs∧y = .agg ds:=by
    unfold tv at hk
    split at hk
    ·exact⟨_,_,rfl,rfl⟩
    ·contradiction
    ·exact hk.elim
   obtain⟨cs,ds,rfl,rfl⟩:=hx
   simp only[tv]at hk
   split at hk
   ·rename_i r hr
    cases h1 with
    | agg vs _ ib zp Tg=>
     cases h2 with
     | agg us _ gS Ti Tj=>
      have TW:Cells c w vs cs:=⟨ib,zp,Tg⟩
      have TX:Cells c w us ds:=⟨gS,Ti,Tj⟩
      have gK:=MB (P:=P) 9998 TW TX fs.toList 0 ls r ht (by simpa using hr)
      have heq:(Op.equalIn 10000 t (.agg vs.toArray) (.agg us.toArray)).run P w = .ok r w:=by
       rw[run_equalIn_struct w 9999 t vs.toArray us.toArray hf hJ.1,T7]
       exact gK
      cases neg
      ·simp only[bF,if_false,Sem.run_bind,run_eqGuard_agg w .eql t xo yo vs.toArray us.toArray hJ.2,Result.andThen_ok,run_eql_struct,heq]
       exact⟨_,rfl,.val h (by simpa using hk)⟩
      ·simp only[if_true,Sem.run_bind,run_eqGuard_agg w .neq t xo yo vs.toArray us.toArray hJ.2,Result.andThen_ok,run_neq_struct,heq]
       exact⟨_,rfl,.val h (by simpa using hk)⟩
   ·exact hk.elim
  ·cases ht
 ·cases ht
theorem Pf(h:e9 G c H w){t:TypeId}(hu:P.underlying t=some .bool)(neg:Bool){x y:D}{u v:Value}(h1:eP c w u x)(h2:eP c w v y)(hk:tv false [.bool] neg x y H K)(xo yo:Operand) :
  ∃ r,(do eqGuard (if neg then .neq else .eql) t xo yo u v;binOp (if neg then .neq else .eql) t u v).run P w = .ok r w∧gU G c H w K r w:=by
 simp only[tv]at hk
 split at hk
 ·rename_i r hr
  simp only[lV]at hr
  split at hr
  ·rename_i p q hp hq
   cases hq
   cases hr
   unfold p8 at hp
   split at hp
   ·contradiction
   ·cases h1;cases h2
    cases hp
    rename_i b b' _
    have heq:=run_equalIn_bool' (P:=P) w 9999 t b b' hu
    have gf:Op.equal t (.bool b) (.bool b')=Op.equalIn 10000 t (.bool b) (.bool b'):=rfl
    cases neg
    ·exact⟨_,by simp[eqGuard,binOp,gf,heq]<;>rfl,.val h (by simpa using hk)⟩
    ·exact⟨_,by simp[eqGuard,binOp,gf,heq]<;>rfl,.val h (by simpa using hk)⟩
   ·contradiction
   ·cases hp
  ·cases hr
 ·exact hk.elim
theorem Ge{f:FuncId}(h:oL P f=true)(args:Array Value)(w:World):(callFunc f args).run P w = .ok (.enter f args) w:=by
 unfold oL at h
 split at h
 ·rename_i fn hf
  simp only[ah,bne_iff_ne,ne_eq]at h
  have hb:fn.body.isNone=false:=by cases hb:fn.body<;>simp[hb]at h ⊢
  simp[callFunc,hf,h.1]
  intro e
  rw[e]at hb
  cases hb
 ·cases h
end
end Go.AL
namespace Go.AL
open Go
section
variable{P:Program}{G:GT}{c:Ctx}{H:U}{w:World}{K:ik}{env:fD}{a:Act}
def wF(r:Result Next)(v:Value)(w':World):Prop:=r = .ok (.value v) w'∨(r = .ok .skip w'∧v=undef)
theorem iw{s:Sem Value}{v:Value}{w':World}(h:s.run P w = .ok v w'):wF ((do pure (.value (← s)):Sem Next).run P w) v w':=.inl (by simp[h])
theorem GF{s:Sem Unit}{w':World}(h:s.run P w = .ok () w'):wF ((do s;pure .skip:Sem Next).run P w) undef w':=.inr ⟨by simp[h],rfl⟩
theorem aaX(h:e9 G c H w){s d:TypeId}{sd:TypeDesc}{k:IntKind}(hs:P.underlying s=some sd)(hd:P.underlying d=some (.int k)){x:D}{u:Value}(h1:eP c w u x)
  (hk:y8 k x H K):∃ r,(convert s d u).run P w = .ok r w∧gU G c H w K r w:=by
 unfold y8 at hk
 split at hk
 ·rename_i k' n
  cases h1
  have nb:P.intKind d=k:=by simp[Program.intKind,hd]
  have:=run_convert_int (P:=P) w s d k' n (by rw[hs];rfl) (by rw[nb];exact hd)
  rw[nb]at this
  exact⟨_,this,.val h hk⟩
 ·exact hk.elim
theorem abg(h:e9 G c H w){o:Oper}{x:Operand}(ho:o.op = .nilCheck x){d:D}(h1:eP c w (a.eval x) d)
  (hk:AF d H K):∃ v w',wF ((execOp a.eval o).run P w) v w'∧gU G c H w K v w':=by
 have key:∀ v,a.eval x=v→(match v with | .pointer (some _)=>True | .func (.func _) _ _=>True | .func (.yield _) _ _=>True|_=>False)→wF ((execOp a.eval o).run P w) v w:=by
  intro v hv hm
  refine .inl ?_
  simp only[execOp,ho,hv]
  split at hm<;>simp_all
 generalize hv:a.eval x=v at h1
 unfold AF at hk
 split at hk
 ·cases h1 with
  | ptr _ _ _ L eU kD=>exact⟨_,w,key _ hv trivial,.plain h hk (.ptr _ _ _ L eU kD)⟩
 ·obtain⟨b,p,e,hF,hc⟩:=uP h1
  subst e
  exact⟨_,w,key _ hv trivial,.plain h hk h1⟩
 ·cases h1 with
  | fn f fs cs df dc e1 e2 e3 e4=>exact⟨_,w,key _ hv trivial,.plain h hk (.fn _ fs cs _ _ e1 e2 e3 e4)⟩
 ·cases h1 with
  | gO _ L eU kD=>exact⟨_,w,key _ hv trivial,.plain h hk (.gO _ L eU kD)⟩
 ·exact hk.elim
theorem JZ{l:Array Operand}{xs:List D}(h:gY c w (l.toList.map a.eval) xs):∃ vs:List Value,l.map a.eval=vs.toArray∧gY c w vs xs:=
 ⟨_,by cases l;simp,h⟩
theorem rC{o:Oper}{cl:Call}(ho:o.op = .call cl){b:Builtin}(hb:cl.callee = .builtin b):(execOp a.eval o).run P w=(builtin b cl.argTypes o.type (cl.args.map fun | .const _=>true|_=>false) (cl.args.map a.eval)).run P w:=by
 simp only[execOp,ho,resolve,hb,Sem.run_bind,Sem.run_pure,Result.andThen_ok,invoke]
 rfl
theorem Py(h:e9 G c H w)(he:jh c w env a){al:Al}(fO:kH H al){o:Oper}{io:gp}(hc:kV P G o=some io)(hk:yJ env H al K io) :
  ∃ v w',wF ((execOp a.eval o).run P w) v w'∧gU G c H w K v w':=by
 unfold kV at hc
 cases ho:o.op with
 | move x=>
  simp only[ho,ax,af,aF,aq]at hc
  obtain⟨X,hX,rfl⟩:=hc
  exact⟨_,w,.inl (by simp only[execOp,ho];rfl),.plain h hk (gD h he hX)⟩
 | assign x=>
  simp only[ho,ax,af,aF,aq]at hc
  obtain⟨X,hX,rfl⟩:=hc
  exact⟨_,w,.inl (by simp only[execOp,ho];rfl),.plain h hk (gD h he hX)⟩
 | pick x y z=>
  simp only[ho,ax,af,aF,aq]at hc
  obtain⟨X,hX,Y,hY,Z,hZ,rfl⟩:=hc
  obtain⟨b,hb,hp⟩:=abh h (gD h he hX) (gD h he hY) (gD h he hZ) hk
  exact⟨_,w,.inl (by simp[execOp,ho,hb];rfl),hp⟩
 | box e x=>
  simp only[ho,ax,af,aF,aq]at hc
  obtain⟨X,hX,rfl⟩:=hc
  obtain⟨r,w',hr,hp⟩:=aaR (P:=P) h fO e (gD h he hX) hk
  exact⟨r,w',by simp only[execOp,ho];exact iw hr,hp⟩
 | alloc e=>
  simp only[ho,ax,af,aF,aq]at hc
  obtain⟨z,hz,rfl⟩:=hc
  obtain⟨r,w',hr,hp⟩:=aaM (P:=P) h fO hz hk
  exact⟨r,w',by simp only[execOp,ho];exact iw hr,hp⟩
 | build t ps=>
  simp only[ho,ax,af]at hc
  obtain⟨z,hz,l,hl,hc⟩:=hc
  split at hc
  ·rename_i fs hu
   split at hc
   ·rename_i hf
    simp only[af,aF,aq]at hc
    obtain⟨qs,hq,rfl⟩:=hc
    obtain⟨r,hr,hp⟩:=aaS h he hz hl hu hf hq hk
    exact⟨r,w,by simp only[execOp,ho];exact iw hr,hp⟩
   ·cases hc
  ·rename_i n e hu
   simp only[af,aF,aq]at hc
   obtain⟨sz,hs,rfl⟩:=hc
   obtain⟨r,hr,hp⟩:=aaT h he hz hl hu hs hk
   exact⟨r,w,by simp only[execOp,ho];exact iw hr,hp⟩
  ·cases hc
 | buildSlice t n ps=>
  simp only[ho,ax,af]at hc
  obtain⟨td,hu,hc⟩:=hc
  split at hc
  ·rename_i e
   simp only[af]at hc
   obtain⟨z,hz,sz,hs,l,hl,hc⟩:=hc
   split at hc
   ·rename_i hJ
    cases hc
    obtain⟨r,w',hr,hp⟩:=aaU (P:=P) h fO he hu hz hs hl hJ.1 hJ.2.1 hJ.2.2 hk
    exact⟨r,w',by simp only[execOp,ho];exact iw hr,hp⟩
   ·cases hc
  ·cases hc
 | load t x=>
  simp only[ho,ax,af]at hc
  obtain⟨X,hX,n,hn,b,hb,hc⟩:=hc
  cases b
  ·cases hc
   obtain⟨v,hv,hp⟩:=aa7 h hb (gD h he hX) hk
   exact⟨v,w,by simp only[execOp,ho];exact iw hv,hp⟩
  ·cases hc
   obtain⟨v,hv,hp⟩:=aa8 h hb hn (gD h he hX) hk
   exact⟨v,w,by simp only[execOp,ho];exact iw hv,hp⟩
 | store t x y=>
  simp only[ho,ax,af]at hc
  obtain⟨X,hX,Y,hY,n,hn,b,hb,hc⟩:=hc
  cases b
  ·simp only[bF,if_false]at hc
   split at hc
   ·rename_i e
    subst e
    cases hc
    obtain⟨w',hv,hp⟩:=abl h hn (gD h he hX) (gD h he hY) hk
    exact⟨_,w',by simp only[execOp,ho];exact GF hv,hp⟩
   ·cases hc
  ·cases hc
   obtain⟨w',hv,hp⟩:=abm h hn (gD h he hX) (gD h he hY) hk
   exact⟨_,w',by simp only[execOp,ho];exact GF hv,hp⟩
 | nilCheck x=>
  simp only[ho,ax,af,aF,aq]at hc
  obtain⟨X,hX,rfl⟩:=hc
  exact abg h ho (gD h he hX) hk
 | binOp op t x y yt=>
  simp only[ho,ax,af]at hc
  obtain⟨X,hX,Y,hY,hc⟩:=hc
  have r1:=gD h he hX
  have r2:=gD h he hY
  split at hc
  ·split at hc
   ·rename_i hb
    cases hc
    obtain⟨v,hv,hp⟩:=Pf (P:=P) h (by unfold DE at hb;split at hb<;>first|assumption|cases hb) false r1 r2 hk x y
    exact⟨v,w,by simp only[execOp,ho];exact iw hv,hp⟩
   ·split at hc
    ·cases hc
     obtain⟨v,hv,hp⟩:=JN (P:=P) h r1 r2 hk t x y
     exact⟨v,w,by simp only[execOp,ho];exact iw hv,hp⟩
    ·simp only[af,aF,aq]at hc
     obtain⟨ls,zO,rfl⟩:=hc
     obtain⟨v,hv,hp⟩:=Pg (P:=P) h zO false r1 r2 hk x y
     exact⟨v,w,by simp only[execOp,ho];exact iw hv,hp⟩
  ·split at hc
   ·rename_i hb
    cases hc
    obtain⟨v,hv,hp⟩:=Pf (P:=P) h (by unfold DE at hb;split at hb<;>first|assumption|cases hb) true r1 r2 hk x y
    exact⟨v,w,by simp only[execOp,ho];exact iw hv,hp⟩
   ·split at hc
    ·cases hc
     obtain⟨v,hv,hp⟩:=JN (P:=P) h r1 r2 hk t x y
     exact⟨v,w,by simp only[execOp,ho];exact iw hv,hp⟩
    ·simp only[af,aF,aq]at hc
     obtain⟨ls,zO,rfl⟩:=hc
     obtain⟨v,hv,hp⟩:=Pg (P:=P) h zO true r1 r2 hk x y
     exact⟨v,w,by simp only[execOp,ho];exact iw hv,hp⟩
  ·cases hc
   obtain⟨v,hv,hp⟩:=JN (P:=P) h r1 r2 hk t x y
   exact⟨v,w,by simp only[execOp,ho];exact iw hv,hp⟩
 | unOp op t x=>
  simp only[ho,ax,af,aF,aq]at hc
  obtain⟨X,hX,rfl⟩:=hc
  obtain⟨v,hv,hp⟩:=abn (P:=P) h (gD h he hX) hk
  exact⟨v,w,by simp only[execOp,ho];exact iw hv,hp⟩
 | convert s d x=>
  simp only[ho,ax,af]at hc
  obtain⟨X,hX,sd,hs,hc⟩:=hc
  split at hc
  ·rename_i k hd
   cases hc
   obtain⟨v,hv,hp⟩:=aaX (P:=P) h hs hd (gD h he hX) hk
   exact⟨v,w,by simp only[execOp,ho];exact iw hv,hp⟩
  ·rename_i hd
   simp only[af]at hc
   obtain⟨sd2,lu,hc⟩:=hc
   split at hc
   ·rename_i e
    simp only[af]at hc
    obtain⟨ed,Ii,hc⟩:=hc
    split at hc
    ·cases hc
     obtain⟨v,hv,hp⟩:=aaQ (P:=P) h lu Ii hd (gD h he hX) hk
     exact⟨v,w,by simp only[execOp,ho];exact iw hv,hp⟩
    ·cases hc
   ·cases hc
  ·cases hc
 | makeFunc f first cap=>
  simp only[ho,ax,af,aF,aq]at hc
  obtain⟨X,hX,Y,hY,rfl⟩:=hc
  exact⟨_,w,.inl (by simp[execOp,ho,Instr.makeFunc]),abb h he hX hY hk⟩
 | makeMap t r=>
  cases r with
  | some r=>simp[ho]at hc
  | none=>
   simp only[ho,ax,af]at hc
   obtain⟨td,hu,hc⟩:=hc
   split at hc
   ·simp only[af,aF,aq]at hc
    obtain⟨kk,jc,rfl⟩:=hc
    obtain⟨v,w',hv,hp⟩:=abd (P:=P) h fO t kk hk
    exact⟨v,w',by simp only[execOp,ho];exact iw hv,hp⟩
   ·cases hc
 | lookup t x i ok=>
  simp only[ho,ax,af]at hc
  obtain⟨td,hu,hc⟩:=hc
  split at hc
  ·simp only[af,aF,aq]at hc
   obtain⟨z,hz,kk,jc,X,hX,Y,hY,rfl⟩:=hc
   obtain⟨v,hv,hp⟩:=aa9 (P:=P) h hu jc hz ok (gD h he hX) (gD h he hY) hk
   exact⟨v,w,by simp only[execOp,ho];exact iw hv,hp⟩
  ·cases hc
 | mapUpdate t m k x=>
  simp only[ho,ax,af]at hc
  obtain⟨td,hu,hc⟩:=hc
  split at hc
  ·simp only[af,aF,aq]at hc
   obtain⟨kk,jc,X,hX,Y,hY,Z,hZ,rfl⟩:=hc
   obtain⟨w',hv,hp⟩:=Ph (P:=P) h hu jc (gD h he hX) (gD h he hY) (gD h he hZ) hk
   exact⟨_,w',by simp only[execOp,ho];exact GF hv,hp⟩
  ·cases hc
 | insert t m k x=>
  simp only[ho,ax,af]at hc
  obtain⟨td,hu,hc⟩:=hc
  split at hc
  ·simp only[af,aF,aq]at hc
   obtain⟨kk,jc,X,hX,Y,hY,Z,hZ,rfl⟩:=hc
   obtain⟨w',hv,hp⟩:=Ph (P:=P) h hu jc (gD h he hX) (gD h he hY) (gD h he hZ) hk
   exact⟨_,w',by simp only[execOp,ho];exact GF hv,hp⟩
  ·cases hc
 | makeSlice t l m=>
  simp only[ho,ax,af]at hc
  obtain⟨td,hu,hc⟩:=hc
  split at hc
  ·simp only[af]at hc
   obtain⟨z,hz,i,hi,hc⟩:=hc
   split at hc
   ·rename_i hJ
    simp only[af,aF,aq]at hc
    obtain⟨X,hX,Y,hY,rfl⟩:=hc
    obtain⟨v,w',hv,hp⟩:=abe (P:=P) h fO hu hi hz hJ.1 hJ.2 (gD h he hX) (gD h he hY) hk
    exact⟨_,w',by simp only[execOp,ho];exact iw hv,hp⟩
   ·cases hc
  ·cases hc
 | slice t x lo hi mx=>
  cases mx with
  | some r=>simp[ho]at hc
  | none=>
   simp only[ho,ax,af]at hc
   obtain⟨X,hX,L,hL,M,hM,hc⟩:=hc
   have r1:=gD h he hX
   split at hc
   ·rename_i e hu
    simp only[af,aF,aq]at hc
    obtain⟨n,hn,rfl⟩:=hc
    obtain⟨v,hv,hp⟩:=abj (P:=P) h he hu hn hL hM r1 hk
    exact⟨v,w,by simp only[execOp,ho];exact iw hv,hp⟩
   ·rename_i hu
    cases hc
    have hs:∃ s,ev env X = .val (.string s):=by
     simp only[yJ]at hk
     unfold xZ at hk
     split at hk
     ·rename_i s e;exact⟨s,e⟩
     ·exact hk.elim
    obtain⟨s,hs⟩:=hs
    simp only[yJ]at hk
    rw[hs]at hk r1
    have U8:a.eval x = .string s:=by
     generalize a.eval x=u at r1
     cases r1;rfl
    obtain⟨v,hv,hp⟩:=abk (P:=P) h he hu hL hM hk
    exact⟨v,w,by simp only[execOp,ho,U8];exact iw hv,hp⟩
   ·cases hc
 | fieldAddr t x f=>
  simp only[ho,ax,af]at hc
  obtain⟨X,hX,td,hu,hc⟩:=hc
  split at hc
  ·simp only[af]at hc
   obtain⟨fd,hf,n,hn,hc⟩:=hc
   split at hc
   ·rename_i jd
    cases hc
    obtain⟨v,hv,hp⟩:=aa2 (P:=P) h hu hf hn jd (gD h he hX) hk
    exact⟨v,w,by simp only[execOp,ho];exact iw hv,hp⟩
   ·cases hc
  ·cases hc
 | field t x f=>
  simp only[ho,ax,af]at hc
  obtain⟨X,hX,td,hu,hc⟩:=hc
  split at hc
  ·simp only[af,aF,aq]at hc
   obtain⟨fd,hf,n,hn,b,hb,rfl⟩:=hc
   obtain⟨v,hv,hp⟩:=aa1 (P:=P) h hu hf hb hn (gD h he hX) hk
   exact⟨v,w,by simp only[execOp,ho];exact iw hv,hp⟩
  ·cases hc
 | indexAddr t x i=>
  simp only[ho,ax,af]at hc
  obtain⟨X,hX,Y,hY,hc⟩:=hc
  split at hc
  ·rename_i e hu
   simp only[af]at hc
   obtain⟨n,hn,hc⟩:=hc
   split at hc
   ·rename_i jd
    cases hc
    obtain⟨v,hv,hp⟩:=aa4 (P:=P) h hu hn jd (gD h he hX) (gD h he hY) hk
    exact⟨v,w,by simp only[execOp,ho];exact iw hv,hp⟩
   ·cases hc
  ·rename_i m e hu
   simp only[af,aF,aq]at hc
   obtain⟨n,hn,rfl⟩:=hc
   obtain⟨v,hv,hp⟩:=aa5 (P:=P) h hu hn (gD h he hX) (gD h he hY) hk
   exact⟨v,w,by simp only[execOp,ho];exact iw hv,hp⟩
  ·cases hc
 | index t x i=>
  simp only[ho,ax,af]at hc
  obtain⟨X,hX,Y,hY,hc⟩:=hc
  split at hc
  ·rename_i m e hu
   simp only[af,aF,aq]at hc
   obtain⟨n,hn,b,hb,rfl⟩:=hc
   obtain⟨v,hv,hp⟩:=aa3 (P:=P) h hu hn hb (gD h he hX) (gD h he hY) hk
   exact⟨v,w,by simp only[execOp,ho];exact iw hv,hp⟩
  ·rename_i hu
   cases hc
   obtain⟨v,hv,hp⟩:=aa6 (P:=P) h hu (gD h he hX) (gD h he hY) hk
   exact⟨v,w,by simp only[execOp,ho];exact iw hv,hp⟩
  ·cases hc
 | extract x i=>
  simp only[ho,ax,af,aF,aq]at hc
  obtain⟨X,hX,rfl⟩:=hc
  obtain⟨v,hv,hp⟩:=aa0 (P:=P) h (gD h he hX) hk
  exact⟨v,w,by simp only[execOp,ho];exact iw hv,hp⟩
 | call cl=>
  simp only[ho,ax,af]at hc
  obtain⟨args,o8,hc⟩:=hc
  have gT:=uN h he cl.args.toList o8
  split at hc
  ·split at hc
   ·cases hc;split at hk<;>exact(show False from hk).elim
   ·cases hc
  ·simp only[af,aF,aq]at hc
   obtain⟨X,hX,rfl⟩:=hc
   exact(show False from hk).elim
  ·rename_i iq
   split at hc
   ·rename_i t u x y lZ
    have o9:cl.argTypes = #[t,u]:=by rw[← bG (xs:=cl.argTypes),lZ]
    obtain⟨vs,iS,gT⟩:=JZ gT
    simp only[List.map_cons,List.map_nil]at gT
    cases gT with|cons r1 gT=>cases gT with|cons r2 gT=>cases gT with|nil=>
    simp only[af]at hc
    obtain⟨td,hu,hc⟩:=hc
    split at hc
    ·simp only[af]at hc
     obtain⟨i,hi,z,hz,ud,N4,hc⟩:=hc
     split at hc
     ·split at hc
      ·rename_i hJ
       cases hc
       obtain⟨v,w',hv,hp⟩:=aaN (P:=P) (ty:=o.type) h fO hu ⟨_,N4⟩ hi hz hJ.1 hJ.2 r1 r2 hk
       exact⟨v,w',by rw[rC ho iq,iS,o9];exact iw hv,hp⟩
      ·cases hc
     ·cases hc
    ·cases hc
   ·cases hc
  ·rename_i iq
   split at hc
   ·rename_i t u x y lZ
    have o9:cl.argTypes = #[t,u]:=by rw[← bG (xs:=cl.argTypes),lZ]
    obtain⟨vs,iS,gT⟩:=JZ gT
    simp only[List.map_cons,List.map_nil]at gT
    cases gT with|cons r1 gT=>cases gT with|cons r2 gT=>cases gT with|nil=>
    simp only[af]at hc
    obtain⟨td,hu,hc⟩:=hc
    split at hc
    ·simp only[af]at hc
     obtain⟨ud,N4,hc⟩:=hc
     split at hc
     ·simp only[af]at hc
      obtain⟨n,hn,hc⟩:=hc
      split at hc
      ·rename_i jd
       cases hc
       obtain⟨v,w',hv,hp⟩:=aaY (P:=P) (u:=u) (ty:=o.type) h hu hn jd r1 r2 hk
       exact⟨v,w',by rw[rC ho iq,iS,o9];exact iw hv,hp⟩
      ·cases hc
     ·cases hc
    ·cases hc
   ·cases hc
  ·rename_i iq
   split at hc
   ·rename_i t x lZ
    have o9:cl.argTypes = #[t]:=by rw[← bG (xs:=cl.argTypes),lZ]
    obtain⟨vs,iS,gT⟩:=JZ gT
    simp only[List.map_cons,List.map_nil]at gT
    cases gT with|cons r1 gT=>cases gT with|nil=>
    split at hc
    ·rename_i e hu
     cases hc
     obtain⟨v,hv,hp⟩:=JO (P:=P) (ty:=o.type) (k:=.slice) h hu ⟨e,rfl⟩ r1 hk
     exact⟨v,w,by rw[rC ho iq,iS,o9];exact iw hv,hp⟩
    ·rename_i hu
     cases hc
     obtain⟨v,hv,hp⟩:=JO (P:=P) (ty:=o.type) (k:=.string) h hu rfl r1 hk
     exact⟨v,w,by rw[rC ho iq,iS,o9];exact iw hv,hp⟩
    ·rename_i k e hu
     cases hc
     obtain⟨v,hv,hp⟩:=JO (P:=P) (ty:=o.type) (k:=.map) h hu ⟨k,e,rfl⟩ r1 hk
     exact⟨v,w,by rw[rC ho iq,iS,o9];exact iw hv,hp⟩
    ·cases hc
   ·cases hc
  ·rename_i iq
   cases hc
   obtain⟨v,hv,hp⟩:=Pj (P:=P) h he o8 true cl.argTypes o.type hk
   exact⟨v,w,by rw[rC ho iq];exact iw (by simpa using hv),hp⟩
  ·rename_i iq
   cases hc
   obtain⟨v,hv,hp⟩:=Pj (P:=P) h he o8 false cl.argTypes o.type hk
   exact⟨v,w,by rw[rC ho iq];exact iw (by simpa using hv),hp⟩
  ·cases hc
 | _=>simp[ho]at hc
