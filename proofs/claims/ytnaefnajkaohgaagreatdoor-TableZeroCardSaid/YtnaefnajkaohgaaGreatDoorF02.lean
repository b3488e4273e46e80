/- Part 2 of the proof of skewer.skewerlaw15.TableZero. -/
import Derived.Test.YtnaefnajkaohgaaGreatDoorF01
set_option linter.all false
namespace Go.AL
open Go
section
variable{P:Program}{G:GT}{c:Ctx}{H:U}{w:World}{K:gN}{env:e9}{a:Act}
theorem Ya(h:eN G c H w){t e:TypeId}{sz n:Nat}(hu:P.underlying t=some (.array n e))(hs:iC P e=some sz){x i:D}{u v:Value}(h1:eu c w u x)(h2:eu c w v i)(hk:yA sz n x i H K) :
  ∃ r,(Instr.indexAt t u v).run P w = .ok r w∧gA G c H w K r w:=by
 have gf:∀ (ad:Addr) (k:IntKind) (m:Int),0≤m∧m<n→(Instr.indexAt t (.pointer (some ad)) (.int k m)).run P w = .ok (.pointer (some (ad.add (m.toNat*sz)))) w:=fun ad k m hm=>by
  simp only[Instr.indexAt,Sem.run_bind,asIntOf,Sem.run_pure,Result.andThen_ok,run_underlying hu,nL hs,Sem.run_ite,Instr.sureAddr]
  rw[if_pos hm]
 unfold yA at hk
 split at hk
 ·rename_i v0 g0 o k m
  obtain⟨hm,hk⟩:=hk
  cases h2
  cases h1 with
  | ptr _ _ _ L eC hv=>
   refine⟨_,gf _ k m hm,.plain h hk ?_⟩
   rw[Addr.add_lit,bf]
   exact .ptr _ _ _ L eC hv
 ·rename_i cs k m
  obtain⟨hm,hk⟩:=hk
  cases h2
  obtain⟨b,p,rfl,hF,hc⟩:=th h1
  refine⟨_,gf _ k m hm,.plain h hk ?_⟩
  rw[Addr.add_lit]
  exact FH hF (hc.drop _)
 ·exact hk.elim
theorem X9(h:eN G c H w){t e:TypeId}{sz n:Nat}{b:Bool}(hu:P.underlying t=some (.array n e))(hs:iC P e=some sz)(ha:lR P e=some b){x i:D}{u v:Value}(h1:eu c w u x)(h2:eu c w v i)(hk:yC sz n b x i H K) :
  ∃ r,(Instr.index t u v).run P w = .ok r w∧gA G c H w K r w:=by
 unfold yC at hk
 split at hk
 ·rename_i cs k m
  obtain⟨hm,hk⟩:=hk
  cases h2
  cases h1 with
  | agg vs _ hl h1 h2=>
   obtain⟨r,hr,hp⟩:=MQ (off:=m.toNat*sz) h ha hs ⟨hl,h1,h2⟩ hk
   refine⟨r,?_,hp⟩
   simp only[Instr.index,Sem.run_bind,asIntOf,Sem.run_pure,Result.andThen_ok,run_underlying hu,Sem.run_ite]
   rw[if_pos hm]
   simp[nL hs,hr]
 ·exact hk.elim
theorem Yb(h:eN G c H w){t:TypeId}(hu:P.underlying t=some .string){x i:D}{u v:Value}(h1:eu c w u x)(h2:eu c w v i)(hk:yD x i H K) :
  ∃ r,(Instr.index t u v).run P w = .ok r w∧gA G c H w K r w:=by
 unfold yD at hk
 split at hk
 ·rename_i s k m
  obtain⟨hm,hk⟩:=hk
  cases h1
  cases h2
  have e7:m.toNat<s.size:=by omega
  have hl:s.data.toList.getD m.toNat 0=s[m.toNat]:=by
   have h':m.toNat<s.data.size:=e7
   show(s.data.toList[m.toNat]?).getD 0=s.data[m.toNat]
   rw[bq,bT h']
   rfl
  rw[hl]at hk
  refine⟨_,?_,.val h hk⟩
  simp only[Instr.index,Sem.run_bind,asIntOf,Sem.run_pure,Result.andThen_ok,run_underlying hu]
  rw[if_pos hm.1]
  simp[e7]
 ·exact hk.elim
theorem XY(h:eN G c H w){x:D}{i:Nat}{u:Value}(h1:eu c w u x)(hk:xI x i H K):∃ r,(Instr.extract u i).run P w = .ok r w∧gA G c H w K r w:=by
 unfold xI at hk
 split at hk
 ·split at hk
  ·rename_i ds d hd
   cases h1 with
   | tup vs _ hl h1=>
    have hi:i<vs.length:=by rw[hl];exact(af.1 hd).1
    refine⟨vs[i],?_,.plain h hk (h1 i _ d (by simp[hi]) hd)⟩
    simp[Instr.extract,hi]
  ·exact hk.elim
 ·exact hk.elim
theorem Yh(h:eN G c H w)(he:iP c w env a){f:Fn}{first cap:Array Operand}{df dc:List X}(h1:qO G first.toList=some df)(h2:qO G cap.toList=some dc)
  (hk:K (.fn f (df.map (ev env)) (dc.map (ev env))) H):gA G c H w K (.func f (first.map a.eval) (cap.map a.eval)) w:=by
 have r1:=tf h he first.toList h1
 have r2:=tf h he cap.toList h2
 refine .plain h hk ?_
 have:=eu.fn (c:=c) (w:=w) f (first.toList.map a.eval) (cap.toList.map a.eval) (df.map (ev env)) (dc.map (ev env)) r1.length r2.length r1.get r2.get
 have e:∀ l:Array Operand,(l.toList.map a.eval).toArray=l.map a.eval:=fun l=>by cases l;simp
 rwa [e,e]at this
theorem Yi(h:eN G c H w){al:Al}(fr:jS H al)(t:TypeId)(kk:KK)(hk:K (.omap al.1) (al.2 (.map kk []))):∃ r w',(Instr.makeMap t none).run P w = .ok r w'∧gA G c H w K r w':=by
 have oM:=ia.alloc w (.map #[] 0)
 have hL:(⟨w.heap.size,0,0,false⟩:Loc).gM=false→w.heap.size≤(⟨w.heap.size,0,0,false⟩:Loc).b∧(⟨w.heap.size,0,0,false⟩:Loc).b<(w.alloc (.map #[] 0)).heap.size:=fun _=>⟨Nat.le_refl _,by simp⟩
 have ht:=(fr (.map kk [])).oY
 have hs:=EH h ht oM ⟨w.heap.size,0,0,false⟩ hL
 refine⟨.map (some w.heap.size),w.alloc (.map #[] 0),by simp[Instr.makeMap],_,_,_,hk,Ig h ht oM _ hL rfl ?_,?_,hs⟩
 ·simp only[fo]
  exact⟨trivial,by simp,#[],0,heap_alloc_new _ _,⟨rfl,by simp,by simp⟩⟩
 ·exact .omap (c:=c.set al.1 0 ⟨w.heap.size,0,0,false⟩) al.1 ⟨w.heap.size,0,0,false⟩ (Ctx.oB _ _ _ _) rfl
theorem Yj(h:eN G c H w){al:Al}(fr:jS H al){t e:TypeId}{i:TypeInfo}{z:List D}(hu:P.underlying t=some (.slice e))(hi:P.info? e=some i)(hz:mw P e=some z)(pr:z.length=i.size)(iu:0<i.size)
  {l m:D} {u v:Value} (h1:eu c w u l) (h2:eu c w v m) (hk:yT e i.size i.bytes z l m al K):∃ r w',(Instr.makeSlice t u v).run P w = .ok r w'∧gA G c H w K r w':=by
 unfold yT at hk
 split at hk
 ·rename_i k n k' q
  obtain⟨⟨Ry,hnq,hq,hb⟩,hk⟩:=hk
  cases h1
  cases h2
  obtain⟨zv,rj,_,oc⟩:=sU hz w
  have qm:zv.cells.size=i.size:=by have:=(oc c w).len;simp at this;omega
  have wn:IntKind.i64.wrap n=n:=wrap_i64 (by unfold kE;omega)
  have wq:IntKind.i64.wrap q=q:=wrap_i64 (by unfold kE;omega)
  have me:Cells c w ((Array.range (q.toNat*i.size)).map (fun j=>zv.cells[j % zv.cells.size]!)).toList (List.replicate q.toNat z).flatten:=by
   rw[← qm,D5 zv.cells q.toNat (by omega)]
   exact CV _ _ oc _
  obtain⟨L,e1,e2,e3,e4,e5,e6⟩:=yU h w (ia.refl w) e _ _ ((Array.range (q.toNat*i.size)).map (fun j=>zv.cells[j % zv.cells.size]!)).size ((Array.range (q.toNat*i.size)).map (fun j=>zv.cells[j % zv.cells.size]!)) (fr _).oY me (by rw[← cu,db]) (Nat.le_refl _)
  refine⟨.slice (some ⟨w.heap.size,0,none⟩) n.toNat q.toNat,w.alloc (.cells ((Array.range (q.toNat*i.size)).map (fun j=>zv.cells[j % zv.cells.size]!)) e),?_,?_⟩
  ·have c1:¬ ((i.bytes:Int)*q>2 ^ 48):=by omega
   have c2:¬ q<0:=by omega
   have c3:¬ n<0:=by omega
   have c4:¬ n>q:=by omega
   simp only[Instr.makeSlice,Sem.run_bind,run_underlying hu,Result.andThen_ok,asInt,asIntOf,Sem.run_pure,run_typeInfo hi,wn,wq,Sem.run_ite]
   rw[if_neg (by simp[c1,c2,c3,c4];omega)]
   by_cases h0:q.toNat*i.size=0
   ·have RO:q.toNat=0:=by rcases Nat.mul_eq_zero.1 h0 with h|h<;>omega
    have er:Array.range 0=(#[]:Array Nat):=rfl
    simp[sizeOf,run_typeInfo hi,RO,newRow,er]
   ·simp[sizeOf,run_typeInfo hi,h0,rj,newRow]
  ·have hp:=D2 (c:=c) (w:=w.alloc (.cells ((Array.range (q.toNat*i.size)).map (fun j=>zv.cells[j % zv.cells.size]!)) e)) e1 e3 al.1 0 i.size n.toNat q.toNat (by rw[e4];simp) (by omega) (by unfold maxLen;omega)
   rw[e2]at hp
   exact⟨_,_,_,hk,e5,hp,e6⟩
 ·exact hk.elim
end
end Go.AL
namespace Go.AL
open Go
section
variable{P:Program}{G:GT}{c:Ctx}{H:U}{w:World}{K:gN}{env:e9}{a:Act}
theorem CT{α:Type}(sz:Nat)(iu:0<sz):∀ (ls:List (List α)),(∀ l∈ls,l.length=sz)→∀ j:Nat,ls.flatten[j]? = (ls[j / sz]?).bind (·[j % sz]?)
 | [],_,j=>by simp
 | l::ls,h,j=>by
  have hl:l.length=sz:=h l (by simp)
  rw[aL]
  by_cases hj:j<sz
  ·rw[ag (by omega),Nat.div_eq_of_lt hj,dF hj]
   simp
  ·rw[aj (by omega),hl,CT sz iu ls (fun l hl=>h l (by simp[hl])),Nat.div_eq_sub_div (a:=j) (b:=sz) iu (by omega),Nat.mod_eq_sub_mod (a:=j) (b:=sz) (by omega)]
   simp
theorem CU{α:Type}(sz:Nat):∀ (ls:List (List α)),(∀ l∈ls,l.length=sz)→ls.flatten.length=ls.length*sz
 | [],_=>by simp
 | l::ls,h=>by
  rw[aL,az,CU sz ls (fun l hl=>h l (by simp[hl])),h l (by simp),aJ,aV]
  omega
theorem Ia(h:eN G c H w){sz:Nat}(iu:0<sz){d:D}{u:Value}(hr:eu c w u d){ys:List D}{n:Nat}(hy:jt sz H d=some (ys,n)) :
  ∃ yb yc vs,u = .slice yb n yc∧Cells c w vs ys∧ys.length=n*sz∧n≤yc∧(yb=none→n=0)∧(∀ ad,yb=some ad→∀ (j:Nat) (v:Value),vs[j]? = some v→w.cell? (ad.add j)=some v):=by
 unfold jt at hy
 split at hy
 ·rename_i fh es
  split at hy
  ·rename_i e
   subst e
   cases hy
   cases hr with
   | sl ad len cap _ _ g hlen ie iF fL lL hc hr=>
    have x9:=CU fh es fL
    have gH:∀ (j:Nat) (d:D),es.flatten[j]? = some d→∃ e,es[j / fh]? = some e∧e[j % fh]? = some d:=fun j d hd=>by
     rw[CT fh iu es fL]at hd
     cases he:es[j / fh]? with
     | none=>simp[he]at hd
     | some e=>exact⟨e,rfl,by simpa[he]using hd⟩
    refine⟨ad,cap,(List.range es.flatten.length).map fun j=>g (j / fh) (j % fh),by rw[hlen],⟨by simp,fun v hv=>?_,fun i v d hv hd=>?_⟩,x9,by omega,fun e=>by have:=lL e;omega,fun b hb j v hv=>?_⟩
    ·simp only[aw,bG]at hv
     obtain⟨j,hj,rfl⟩:=hv
     obtain⟨e,xY,mX⟩:=gH j _ (by rw[List.getElem?_eq_getElem hj])
     obtain⟨_,_,_,_,_,h1⟩:=hc _ e _ _ xY mX
     exact h1
    ·obtain⟨e,xY,mX⟩:=gH i d hd
     simp only[ar,bO (af.1 hd).1,a8,aq]at hv
     subst hv
     exact hr _ e _ d xY mX
    ·have hj:j<es.flatten.length:=by have:=(af.1 hv).1;simpa using this
     simp only[ar,bO hj,a8,aq]at hv
     subst hv
     obtain⟨e,xY,mX⟩:=gH j _ (by rw[List.getElem?_eq_getElem hj])
     obtain⟨b',o,vB,_,h2,_⟩:=hc _ e _ _ xY mX
     rw[hb]at vB
     cases vB
     rw[Addr.add_lit]
     have h3:=h2
     rw[Nat.div_add_mod' j fh]at h3
     exact h3
  ·cases hy
 ·cases hy
  cases hr with
  | emp=>exact⟨none,0,[],rfl,Cells.nil,by simp,Nat.le_refl _,fun _=>rfl,fun _ _ j v hv=>by simp at hv⟩
 ·rename_i v0 g0 fh off len
  split at hy
  ·rename_i t cs fu
   split at hy
   ·rename_i gG
    obtain⟨rfl,jL⟩:=gG
    cases hy
    have hv:=oW fu
    dsimp only at hv
    cases hr with
    | et _ _ _ _ _ cap L eC fH ie iF jN=>
     obtain⟨arr,h1,h2,h3,h4⟩:=sR h hv eC fH
     refine⟨_,cap,_,rfl,((h4.drop (off*fh)).take (n*fh)),?_,ie,(fun e=>nomatch e),fun ad hb j v hv=>?_⟩
     ·simp only[aP,bk]
      rw[aV]at jL
      omega
     ·cases hb
      rw[Addr.add_lit]
      rw[ay]at hv
      split at hv
      ·rw[aC,ay]at hv
       split at hv
       ·rw[aC]at hv
        simp[World.cell?,h1]
        rw[bf]
        simpa using hv
       ·cases hv
      ·cases hv
    | kd _ _ _ _ L eC ad=>
     refine⟨ad,0,[],rfl,?_,by simp,Nat.le_refl _,fun _=>rfl,fun _ _ j v hv=>by simp at hv⟩
     simp only[b8,du]
     exact Cells.nil
   ·cases hy
  ·cases hy
 ·cases hy
theorem Jw:∀ {vs:List Value} {ys:List D} {ns:List Int},vs.length=ys.length→(∀ (i:Nat) (v:Value) (d:D),vs[i]? = some v→ys[i]? = some d→eu c w v d)→bytesOf ys=some ns→vs=ns.map (Value.int .u8)
 | [],[],ns,_,_,h=>by cases h;rfl
 | v::vs,y::ys,ns,hl,hr,h=>by
  unfold bytesOf at h
  split at h
  ·rename_i heq;cases heq
  ·rename_i n r heq
   cases heq
   split at h
   ·rename_i l jZ
    cases h
    have h0:=hr 0 v _ rfl rfl
    cases h0
    have e:=Jw (vs:=vs) (by simpa using hl) (fun i v d hv hd=>hr (i+1) v d (by simpa using hv) (by simpa using hd)) jZ
    rw[e]
    rfl
   ·cases h
  ·cases h
theorem XL(h:eN G c H w){s d e:TypeId}(hs:P.underlying s=some (.slice e))(he:P.underlying e=some (.int .u8))(hd:P.underlying d=some .string){x:D}{u:Value}(h1:eu c w u x)(hk:xg x H K) :
  ∃ r,(convert s d u).run P w = .ok r w∧gA G c H w K r w:=by
 unfold xg at hk
 split at hk
 ·rename_i ys n mJ
  obtain⟨yb,yc,vs,mh,iA,iM,LP,yx,yw⟩:=Ia h (by omega) h1 mJ
  subst mh
  split at hk
  ·rename_i ns Dh
   have hv:=Jw iA.len iA.rep Dh
   refine⟨_,?_,.val h hk⟩
   rw[run_convert_bytes_string w s d e yb n yc hs he hd]
   cases yb with
   | none=>
    have hn:=yx rfl
    subst hn
    have:ns = []:=by
     have:vs = []:=aU (by rw[iA.len,iM])
     rw[this]at hv
     cases ns with
     | nil=>rfl
     | cons=>cases hv
    subst this
    simp[Conv.bytesToString]
   | some ad=>
    refine run_bytesToString w ad n yc ns ?_
    have hl:vs.length=n:=by rw[iA.len,iM];simp
    have:=run_loadCells_list (P:=P) w ad vs (yw ad rfl)
    rw[hl]at this
    rw[this,hv]
  ·exact hk.elim
 ·exact hk.elim
theorem On(h:eN G c H w)(he:iP c w env a){x:Option Operand}{X:Option X}(hx:qN G x=some X){d:Int}{n:Int}(hb:gE env X d=some n) :
  (x=none∧n=d)∨∃ k o,x=some o∧a.eval o = .int k n:=by
 cases x with
 | none=>cases hx;simp[gE]at hb;exact .inl ⟨rfl,hb.symm⟩
 | some o=>
  simp only[qN,ai]at hx
  obtain⟨X0,hX,rfl⟩:=hx
  have:=fY h he hX
  simp only[gE]at hb
  split at hb
  ·rename_i k m mf
   cases hb
   rw[mf]at this
   generalize hv:a.eval o=v at this
   cases this
   exact .inr ⟨k,o,rfl,hv⟩
  ·cases hb
theorem Nw(isSlice:Bool)(len cap:Nat)(lo hi:Option Value)(l h:Int)(j':(lo=none∧l=0)∨∃ k,lo=some (.int k l))(Re:(hi=none∧h=len)∨∃ k,hi=some (.int k h))
  (h0:0≤l) (h1:l≤h) (h2:h≤cap):(Instr.sliceBounds isSlice len cap lo hi none).run P w = .ok (l.toNat,h.toNat,cap) w:=by
 have eh:(h.toNat:Int)=h:=bZ (by omega)
 rcases j' with⟨rfl,rfl⟩|⟨k,rfl⟩<;>rcases Re with⟨rfl,rfl⟩|⟨k',rfl⟩
 ·simp[Instr.sliceBounds]
 ·simp[Instr.sliceBounds,run_sliceBound w k' h cap _ (by omega) h2]
 ·simp[Instr.sliceBounds,run_sliceBound w k l len _ h0 h1]
 ·simp[Instr.sliceBounds,run_sliceBound w k' h cap _ (by omega) h2,run_sliceBound w k l h.toNat _ h0 (by omega)]
theorem Ch(h:eN G c H w)(he:iP c w env a){x:Option Operand}{X:Option X}(hx:qN G x=some X){d:Int}{n:Int}(hb:gE env X d=some n) :
  (x.map a.eval=none∧n=d)∨∃ k,x.map a.eval=some (.int k n):=by
 rcases On h he hx hb with⟨rfl,rfl⟩|⟨k,o,rfl,hv⟩
 ·exact .inl ⟨rfl,rfl⟩
 ·exact .inr ⟨k,by simp[hv]⟩
theorem Yp(h:eN G c H w)(he:iP c w env a){t e:TypeId}{sz:Nat}(hu:P.underlying t=some (.slice e))(hs:iC P e=some sz){lo hi:Option Operand}{L M:Option X}(hl:qN G lo=some L)(hm:qN G hi=some M)
  {x:D} {u:Value} (h1:eu c w u x) (hk:zA env sz x L M H K):∃ r,(Instr.sliceAt t u (lo.map a.eval) (hi.map a.eval) none).run P w = .ok r w∧gA G c H w K r w:=by
 have gf:∀ (b:Option Addr) (len cap:Nat) (l m:Int),gE env L 0=some l→gE env M len=some m→0≤l→l≤m→m≤cap →
   (Instr.sliceAt t (.slice b len cap) (lo.map a.eval) (hi.map a.eval) none).run P w = .ok (.slice (if cap=l.toNat then b else b.map (·.add (l.toNat*sz))) (m.toNat-l.toNat) (cap-l.toNat)) w:=by
  intro b len cap l m qd qe h0 pe Rv
  have hb:=Nw (P:=P) (w:=w) true len cap (lo.map a.eval) (hi.map a.eval) l m (Ch h he hl qd) (Ch h he hm qe) h0 pe Rv
  simp only[Instr.sliceAt,Sem.run_bind,run_underlying hu,Result.andThen_ok,Instr.slice,hb,nL hs,Sem.run_pure]
 unfold zA at hk
 split at hk
 ·rename_i fh es
  split at hk
  ·rename_i l m qd qe
   obtain⟨rfl,⟨h0,pe,Gn⟩,hk⟩:=hk
   cases h1 with
   | sl ad len cap _ _ g hlen ie iF fL lL hc hr=>
    refine⟨_,gf ad len cap l m qd (by rw[← hlen];exact qe) h0 pe (by omega),.plain h hk ?_⟩
    have gH:∀ (i:Nat) (e:List D),((es.drop l.toNat).take (m.toNat-l.toNat))[i]? = some e→es[l.toNat+i]? = some e∧i<m.toNat-l.toNat:=fun i e hi=>by
     rw[ay]at hi
     split at hi
     ·rw[aC]at hi;exact⟨hi,by assumption⟩
     ·cases hi
    refine .sl _ _ _ fh _ (fun i j=>g (l.toNat+i) j) (by simp;omega) (by omega) (by omega) (fun e mH=>fL e (bN (aN mH))) ?_ ?_ ?_
    ·intro hn
     split at hn
     ·omega
     ·cases ad with
      | none=>have:=lL rfl;omega
      | some ad=>simp at hn
    ·intro i e j d hi hd
     obtain⟨h3,h4⟩:=gH i e hi
     obtain⟨b,o,vB,hF,tM,h1⟩:=hc _ e j d h3 hd
     refine⟨b,o+l.toNat*fh,?_,hF,?_,h1⟩
     ·rw[if_neg (by omega),vB]
      simp[Addr.add_lit]
     ·rw[← tM,aV]
      congr 2
      omega
    ·intro i e j d hi hd
     exact hr _ e j d (gH i e hi).1 hd
  ·exact hk.elim
 ·rename_i v g0 fh off len
  split at hk
  ·rename_i l m qd qe
   obtain⟨rfl,⟨h0,pe,Gn⟩,hk⟩:=hk
   cases h1 with
   | et _ _ _ _ _ cap Lc eC hv ie iF jN=>
    refine⟨_,gf _ len cap l m qd qe h0 pe (by omega),.plain h hk ?_⟩
    by_cases hz:cap=l.toNat
    ·rw[if_pos hz,show m.toNat-l.toNat=0 by omega,show cap-l.toNat=0 by omega]
     exact .kd v g0 fh (off+l.toNat) Lc eC _
    ·rw[if_neg hz]
     have:=eu.et (c:=c) (w:=w) v g0 fh (off+l.toNat) (m.toNat-l.toNat) (cap-l.toNat) Lc eC hv (by omega) (by omega) (by rw[show off+l.toNat+(cap-l.toNat)=off+cap by omega];exact jN)
     simp only[a8,Addr.add_lit]
     rw[bf,← aV]
     exact this
   | kd _ _ _ _ Lc eC ad=>
    have:l=0:=by omega
    subst this
    have:m=0:=by omega
    subst this
    refine⟨_,gf ad 0 0 0 0 qd qe h0 pe (by omega),.plain h hk ?_⟩
    simp only[Int.toNat_zero,if_true,Nat.sub_zero,b9]
    exact .kd v g0 fh off Lc eC ad
  ·exact hk.elim
 ·split at hk
  ·rename_i l m qd qe
   obtain⟨⟨rfl,rfl⟩,hk⟩:=hk
   cases h1 with
   | emp=>
    refine⟨_,gf none 0 0 0 0 qd qe (by omega) (by omega) (by omega),.plain h hk ?_⟩
    simp only[Int.toNat_zero,if_true,Nat.sub_zero]
    exact .emp
  ·exact hk.elim
 ·exact hk.elim
theorem Ys(h:eN G c H w)(he:iP c w env a){t:TypeId}(hu:P.underlying t=some .string){lo hi:Option Operand}{L M:Option X}(hl:qN G lo=some L)(hm:qN G hi=some M)
  {s:ByteArray} (hk:wz env (.val (.string s)) L M H K):∃ r,(Instr.sliceAt t (.string s) (lo.map a.eval) (hi.map a.eval) none).run P w = .ok r w∧gA G c H w K r w:=by
 simp only[wz]at hk
 split at hk
 ·rename_i l m qd qe
  obtain⟨⟨h0,pe,Gn⟩,hk⟩:=hk
  have hb:=Nw (P:=P) (w:=w) false s.size s.size (lo.map a.eval) (hi.map a.eval) l m (Ch h he hl qd) (Ch h he hm qe) h0 pe Gn
  exact⟨.string (s.extract l.toNat m.toNat),by simp[Instr.sliceAt,run_underlying hu,Instr.slice,hb],.val h hk⟩
 ·exact hk.elim
theorem sM{v:Nat}{x:KK×List (Value×D)}(h:kc H v=some x):H[v]? = some (.map x.1 x.2):=by
 unfold kc at h
 split at h
 ·cases h;assumption
 ·cases h
theorem Hz(h:eN G c H w){t ty:TypeId}{k:s7}{d:TypeDesc}(hd:P.underlying t=some d)(tU:match k with | .slice=>∃ e,d = .slice e | .string=>d = .string | .map=>∃ k e,d = .map k e)
  {x:D} {u:Value} (h1:eu c w u x) (hk:yJ k x H K):∃ r,(Builtin.len_ #[t] ty #[u]).run P w = .ok r w∧gA G c H w K r w:=by
 unfold yJ at hk
 split at hk
 ·obtain⟨e,rfl⟩:=tU
  cases h1 with
  | sl ad len cap _ _ g hlen ie iF fL lL hc hr=>
   refine⟨goInt len,by simp[Builtin.len_,run_underlying hd],.plain h hk ?_⟩
   rw[hlen];exact .val _
 ·obtain⟨e,rfl⟩:=tU
  cases h1 with
  | emp=>exact⟨goInt 0,by simp[Builtin.len_,run_underlying hd],.plain h hk (.val _)⟩
 ·rename_i v g0 sz off len
  obtain⟨e,rfl⟩:=tU
  cases h1 with
  | et _ _ _ _ _ cap L eC hv ie iF jN=>exact⟨goInt len,by simp[Builtin.len_,run_underlying hd],.plain h hk (.val _)⟩
  | kd=>exact⟨goInt 0,by simp[Builtin.len_,run_underlying hd],.plain h hk (.val _)⟩
 ·have tU:d = .string:=tU
  subst tU
  cases h1
  exact⟨_,by simp[Builtin.len_,run_underlying hd]<;>rfl,.plain h hk (.val _)⟩
 ·rename_i v
  obtain⟨kk,e,rfl⟩:=tU
  split at hk
  ·rename_i nJ es qY
   cases h1 with
   | omap _ L eC hv=>
    have fC:=h.ob v _ (sM qY)
    simp only[Ob.gen]at fC
    rw[eC]at fC
    simp only[fo]at fC
    obtain⟨_,_,arr,clock,hm,fL,_⟩:=fC
    refine⟨goInt arr.size,by simp[Builtin.len_,run_underlying hd,getObj,Sem.run,hm],.plain h hk ?_⟩
    rw[← fL];exact .val _
  ·exact hk.elim
 ·exact hk.elim
theorem MN(h:eN G c H w)(he:iP c w env a){xs:List X}{ops:Array Operand}(hx:qO G ops.toList=some xs)(isMax:Bool)(ts:Array TypeId)(ty:TypeId)(hk:yS env isMax xs H K) :
  ∃ r,(if isMax then Builtin.max_ ts ty (ops.map a.eval)else Builtin.min_ ts ty (ops.map a.eval)).run P w = .ok r w∧gA G c H w K r w:=by
 have hr:=tf h he ops.toList hx
 have key:∀ (xs:List X) (vs:List Value) (l:List Int),mK env xs=some l→gD c w vs (xs.map (ev env))→vs=l.map (Value.int .i64 ·):=by
  intro xs
  induction xs with
  | nil=>intro vs l hl hr;simp[mK]at hl;subst hl;cases hr;rfl
  | cons x xs ih=>
   intro vs l hl hr
   simp only[mK]at hl
   split at hl
   ·rename_i n l' mf jZ
    cases hl
    simp only[List.map_cons]at hr
    cases hr with
    | cons h1 h2=>
     rw[mf]at h1
     cases h1
     rw[ih _ _ jZ h2]
     rfl
   ·cases hl
 have e:∀ l:Array Operand,(l.toList.map a.eval).toArray=l.map a.eval:=fun l=>by cases l;simp
 unfold yS at hk
 split at hk
 ·rename_i p q hi
  have hv:=key _ _ _ hi hr
  have jB:ops.map a.eval = #[.int .i64 p,.int .i64 q]:=by rw[← e,hv];rfl
  cases isMax
  ·refine⟨.int .i64 (min p q),?_,.val h (by simpa using hk)⟩
   simp only[bw,if_false,jB]
   have:(if q<p then q else p)=min p q:=by omega
   simp[Builtin.min_,Builtin.min2,this]
  ·refine⟨.int .i64 (max p q),?_,.val h (by simpa using hk)⟩
   simp only[if_true,jB]
   have:(if q>p then q else p)=max p q:=by omega
   simp[Builtin.max_,Builtin.max2]
   omega
 ·rename_i p q s hi
  have hv:=key _ _ _ hi hr
  have jB:ops.map a.eval = #[.int .i64 p,.int .i64 q,.int .i64 s]:=by rw[← e,hv];rfl
  cases isMax
  ·refine⟨.int .i64 (min (min p q) s),?_,.val h (by simpa using hk)⟩
   simp only[bw,if_false,jB]
   simp[Builtin.min_,Builtin.min2]
   omega
  ·refine⟨.int .i64 (max (max p q) s),?_,.val h (by simpa using hk)⟩
   simp only[if_true,jB]
   simp[Builtin.max_,Builtin.max2]
   omega
 ·exact hk.elim
end
end Go.AL
namespace Go.AL
open Go
section
variable{P:Program}{G:GT}{c:Ctx}{H:U}{w:World}{K:gN}{env:e9}{a:Act}
theorem Mx{G:GT}{c:Ctx}{H:U}{w w':World}(h:eN G c H w){v g:Nat}{t:TypeId}{cs:List D}(hv:H[v]? = some (.row t g cs)){L:Loc}(eC:c.ι v g=some L)(L':Loc)
  (hg:(w'.os=w.os∧w.drawn≤w'.drawn)∧w'.tape=w.tape∧w'.output=w.output∧w.heap.size≤w'.heap.size) (Dc:∀ b,b<w.heap.size→¬ (L.gM=false∧b=L.b)→w'.heap[b]? = w.heap[b]?)
  (ue:L'.gM=false→(w.heap.size≤L'.b∨(L.gM=false∧L'.b=L.b))∧L'.b<w'.heap.size) (kh:List D)
  (fC:(∀ u d,eu c w u d→eu (c.set v (g+1) L') w' u d)→fo (c.set v (g+1) L') w' (some L') (.row t (g+1) kh)) :
  eN G (c.set v (g+1) L') (H.set v (.row t (g+1) kh)) w'∧Step H.length c H w (c.set v (g+1) L') (H.set v (.row t (g+1) kh)) w':=by
 have gq:v<H.length:=(af.1 hv).1
 have q8:jc c H v L:=⟨_,hv,rfl,eC⟩
 have ht:rM H v (.row t (g+1) kh) (H.set v (.row t (g+1) kh)):=⟨nj gq,.inr (.inr ⟨_,hv,rfl,Nat.lt_succ_self _⟩),by simp⟩
 have RE:∀ b,c.F b→¬ (L.gM=false∧b=L.b):=fun b hF e=>h.nF b ⟨v,L,q8,e.1,e.2.symm⟩ hF
 have jX:∀ u l,jc (c.set v (g+1) L') (H.set v (.row t (g+1) kh)) u l→(u=v∧l=L')∨(u≠v∧jc c H u l):=fun u l hl=>wF ht hl
 have nC:∀ b,ju (c.set v (g+1) L') (H.set v (.row t (g+1) kh)) b→(L'.gM=false∧b=L'.b)∨(ju c H b∧¬ (L.gM=false∧b=L.b)):=by
  rintro b ⟨u,l,hl,jO,rfl⟩
  rcases jX u l hl with⟨_,rfl⟩|⟨fF,h1⟩
  ·exact .inl ⟨jO,rfl⟩
  ·exact .inr ⟨⟨u,l,h1,jO,rfl⟩,fun e=>fF (h.inj u v l L h1 q8 jO e.1 e.2)⟩
 have hs:Step H.length c H w (c.set v (g+1) L') (H.set v (.row t (g+1) kh)) w':={
  os:=hg.1
  tape:=hg.2.1
  output:=hg.2.2.1
  size:=hg.2.2.2
  RT:=rfl
  Fm:=fun _ h=>h
  Fn:=fun _ h=>.inl h
  kept:=fun b hb hn=>Dc b hb fun e=>hn ⟨v,L,q8,e.1,e.2.symm⟩
  old:=fun u k l _ hu=>NN h ht u k l hu
  own:=fun b hb=>by
   rcases nC b hb with⟨jO,rfl⟩|⟨hb,_⟩
   ·rcases(ue jO).1 with h1|⟨h1,h2⟩
    ·exact .inl h1
    ·exact .inr ⟨v,L,q8,h1,h2.symm⟩
   ·exact .inr hb }
 have hr:∀ u d,eu c w u d→eu (c.set v (g+1) L') w' u d:=fun u d hd=>hd.mr h.toHeapOK hs
 refine⟨{
  inj:=fun u u' l l' h1 h2 h5 h6 he=>by
   rcases jX u l h1 with⟨rfl,rfl⟩|⟨n1,b1⟩<;>rcases jX u' l' h2 with⟨rfl,rfl⟩|⟨n2,b2⟩
   ·rfl
   ·exfalso
    have e7:=h.lt l'.b ⟨u',l',b2,h6,rfl⟩
    rcases(ue h5).1 with h7|⟨h7,h8⟩
    ·omega
    ·exact n2 (h.inj u' u l' L b2 q8 h6 h7 (by omega))
   ·exfalso
    have e7:=h.lt l.b ⟨u,l,b1,h5,rfl⟩
    rcases(ue h6).1 with h7|⟨h7,h8⟩
    ·omega
    ·exact n1 (h.inj u u' l L b1 q8 h5 h7 (by omega))
   ·exact h.inj u u' l l' b1 b2 h5 h6 he
  lt:=fun b hb=>by
   rcases nC b hb with⟨jO,rfl⟩|⟨hb,_⟩
   ·exact(ue jO).2
   ·exact aH (h.lt b hb) hg.2.2.2
  nF:=fun b hb hF=>by
   rcases nC b hb with⟨jO,rfl⟩|⟨hb,_⟩
   ·rcases(ue jO).1 with h7|⟨h7,h8⟩
    ·have:=h.iz _ hF;omega
    ·exact RE _ hF ⟨h7,h8⟩
   ·exact h.nF b hb hF
  iz:=fun b hb=>aH (h.iz b hb) hg.2.2.2
  out:=fun u k hu=>by
   simp only[bV]at hu
   rw[Ctx.pH _ _ (by rintro⟨rfl,_⟩;omega)];exact h.out u k hu
  jx:=fun u o k ho hk=>by
   rw[nj gq]at ho
   split at ho
   ·rename_i e
    cases ho;subst e
    rcases hk with hk|⟨_,hk⟩
    ·cases hk
    ·simp only[Ob.gen]at hk
     rw[Ctx.pH _ _ (by rintro⟨_,rfl⟩;omega)];exact h.jx u _ k hv (.inr ⟨rfl,by simp only[Ob.gen];omega⟩)
   ·rename_i e
    rw[Ctx.pH _ _ (fun h=>e h.1)]
    exact h.jx u o k ho hk
  ob:=fun u o ho=>by
   rw[nj gq]at ho
   split at ho
   ·rename_i e
    cases ho;subst e
    simp only[Ob.gen]
    rw[Ctx.oB]
    exact fC hr
   ·rename_i fF
    rw[Ctx.pH _ _ (fun h=>fF h.1)]
    exact fo.nh (c:=c) (c':=c.set v (g+1) L') rfl hr (fun l hl jB hd=>Dc _ (h.lt _ ⟨u,l,⟨o,ho,hd,hl⟩,jB,rfl⟩) fun e=>fF (h.inj u v l L ⟨o,ho,hd,hl⟩ q8 jB e.1 e.2)) (h.ob u o ho)
  gl:=fun g' cs tO=>by
   obtain⟨ff,pj⟩:=h.gl g' cs tO
   exact⟨ff,hr _ _ pj⟩
  rt:=h.rt },hs⟩
theorem Hr{G:GT}{c:Ctx}{H:U}{w w':World}(h:eN G c H w){v g:Nat}{t:TypeId}{cs:List D}(hv:H[v]? = some (.row t g cs)){L:Loc}(eC:c.ι v g=some L)(L':Loc)(fH:L'.gM=false)
  (hg:(w'.os=w.os∧w.drawn≤w'.drawn)∧w'.tape=w.tape∧w'.output=w.output∧w.heap.size≤w'.heap.size) (Dc:∀ b,b<w.heap.size→¬ (L.gM=false∧b=L.b)→w'.heap[b]? = w.heap[b]?)
  (ue:(w.heap.size≤L'.b∨(L.gM=false∧L'.b=L.b))∧L'.b<w'.heap.size)
  (arr:Array Value) (ki:w'.heap[L'.b]? = some (.cells arr t (0,0))) (jN:L'.top=arr.size) (kh:List D) (hlen:L'.base+kh.length≤L'.top)
  (hc:∀ (i:Nat) (d:D),kh[i]? = some d→∃ u,arr[L'.base+i]? = some u∧u.oneCell'=true∧eu c w u d) :
  eN G (c.set v (g+1) L') (H.set v (.row t (g+1) kh)) w'∧Step H.length c H w (c.set v (g+1) L') (H.set v (.row t (g+1) kh)) w':=by
 refine Mx h hv eC L' hg Dc (fun _=>ue) kh fun hr=>?_
 simp only[fo,fH]
 refine⟨arr,ki,jN,hlen,fun i d hd=>?_⟩
 obtain⟨x,mi,jH,ri⟩:=hc i d hd
 exact⟨x,mi,jH,hr _ _ ri⟩
theorem Pm{G:GT}{c:Ctx}{H:U}{w:World}(h:eN G c H w){v g:Nat}{t:TypeId}{cs:List D}(hv:H[v]? = some (.row t g cs)){L:Loc}(eC:c.ι v g=some L) :
  eN G (c.set v (g+1) L) (H.set v (.row t (g+1) [])) w∧Step H.length c H w (c.set v (g+1) L) (H.set v (.row t (g+1) [])) w:=by
 refine Mx h hv eC L ⟨⟨rfl,Nat.le_refl _⟩,rfl,rfl,Nat.le_refl _⟩ (fun _ _ _=>rfl) (fun jO=>⟨.inr ⟨jO,rfl⟩,h.lt _ ⟨v,L,⟨_,hv,rfl,eC⟩,jO,rfl⟩⟩) [] fun _=>?_
 have h0:=h.ob v _ hv
 simp only[Ob.gen]at h0
 rw[eC]at h0
 simp only[fo]at h0 ⊢
 split
 ·simp
 ·rename_i jO
  simp only[jO]at h0
  obtain⟨arr,h1,h2,h3,_⟩:=h0
  exact⟨arr,h1,h2,by simp;omega,by simp⟩
theorem HW{t u ty e:TypeId}{i:TypeInfo}{zv:Value}(ht:P.underlying t=some (.slice e))(hu:∃ e',P.underlying u=some (.slice e'))(hi:P.info? e=some i)(hz:i.zero=some zv)
  (b:Option Addr) (kY pG:Nat) (y:Value) (yb:Option Addr) (n yc:Nat) (hy:y = .slice yb n yc) (MS news:List Value)
  (hold:(Builtin.firstCells i.size kY (.slice b kY pG)).run P w.drew = .ok MS.toArray w.drew) (jM:(Builtin.firstCells i.size n y).run P w.drew = .ok news.toArray w.drew)
  (hg:pG<kY+n) (vx:kY+n≤9223372036854775807) (hb:(kY+n)*i.bytes≤140737488355328) :
  (Builtin.append_ #[t,u] ty #[.slice b kY pG,y]).run P w = .ok (.slice (some ⟨w.heap.size,0,none⟩) (kY+n) (grownCap w (kY+n) pG e))
    (w.drew.alloc (.cells (MS.toArray++news.toArray++Builtin.zeroCells zv.cells (grownCap w (kY+n) pG e-(kY+n))) e)):=by
 subst hy
 obtain⟨e',hu⟩:=hu
 have hn:¬ (kY+n≤pG):=by omega
 have KG:¬ (9223372036854775807<((kY:Int)+(n:Int))):=by omega
 have FT:¬ (281474976710656<Builtin.nextslicecap (kY+n) pG*i.bytes):=by have:=growslice_fits hg hb;omega
 simp[Builtin.append_,run_underlying ht,run_underlying hu,sizeOf,typeInfo,zeroValue,hi,hz,Builtin.lenOf,hn,KG,FT,Question.forced,newRow,grownCap,hold,jM]
 congr 2
 apply dC
 simp[bg]
theorem Zh{t u ty e:TypeId}{i:TypeInfo}(ht:P.underlying t=some (.slice e))(hu:∃ e',P.underlying u=some (.slice e'))(hi:P.info? e=some i)
  (b o:Nat) (kY pG:Nat) (y:Value) (yb:Option Addr) (n yc:Nat) (hy:y = .slice yb n yc) (news:List Value) (arr:Array Value) (hg:w.heap[b]? = some (.cells arr e (0,0)))
  (jM:(Builtin.firstCells i.size n y).run P w = .ok news.toArray w) (h1:∀ v∈news,v.oneCell'=true) (yn:kY+n≤pG) (jL:o+kY*i.size+news.length≤arr.size) :
  (Builtin.append_ #[t,u] ty #[.slice (some ⟨b,o,none⟩) kY pG,y]).run P w = .ok (.slice (some ⟨b,o,none⟩) (kY+n) pG)
    (w.setRow b (arr.toList.take (o+kY*i.size)++news++arr.toList.drop (o+kY*i.size+news.length)).toArray):=by
 subst hy
 obtain⟨e',hu⟩:=hu
 have eH:=run_storeCells_at P b (o+kY*i.size) e news 0 arr w hg (by simpa using jL) h1
 simp only[b9]at eH
 simp[Builtin.append_,run_underlying ht,run_underlying hu,sizeOf,typeInfo,hi,Builtin.lenOf,yn,jM,Addr.add_lit,eH]
theorem FE{sz:Nat}{w':World}{yb:Option Addr}{yc n:Nat}{vs:List Value}(hl:vs.length=n*sz)(lL:yb=none→n=0)(hc:∀ ad,yb=some ad→∀ (j:Nat) (v:Value),vs[j]? = some v→w'.cell? (ad.add j)=some v) :
  (Builtin.firstCells sz n (.slice yb n yc)).run P w' = .ok vs.toArray w':=by
 cases yb with
 | none=>
  have:=lL rfl
  subst this
  have:vs = []:=aU (by simpa using hl)
  subst this
  exact run_firstCells_none w' sz 0 0 yc
 | some ad=>exact run_firstCells_some w' sz n ad n yc vs hl (hc ad rfl)
theorem KB(w:World)(o:Obj):ia w (w.drew.alloc o):=(ia.drew w).trans (ia.alloc _ _)
theorem XI(h:eN G c H w){al:Al}(fr:jS H al){t u ty e:TypeId}{i:TypeInfo}{z:List D}(ht:P.underlying t=some (.slice e))(hu:∃ e',P.underlying u=some (.slice e'))(hi:P.info? e=some i)(hz:mw P e=some z)(pr:z.length=i.size)(iu:0<i.size)
  {x y:D} {ux uy:Value} (h1:eu c w ux x) (h2:eu c w uy y) (hk:xd e i.size i.bytes x y H al K):∃ r w',(Builtin.append_ #[t,u] ty #[ux,uy]).run P w = .ok r w'∧gA G c H w K r w':=by
 obtain⟨zv,rj,Dz,oc⟩:=sU hz w
 have yy:i.zero=some zv:=by simpa[hi]using Dz
 have qm:zv.cells.size=i.size:=by have:=(oc c w).len;simp at this;omega
 unfold xd at hk
 split at hk
 ·rename_i ys n mJ
  obtain⟨yb,yc,vs,mh,iA,iM,LP,yx,yw⟩:=Ia h iu h2 mJ
  have gq:vs.length=n*i.size:=by rw[iA.len,iM]
  have jM:∀ w',(∀ b,w'.cell? b=w.cell? b)→(Builtin.firstCells i.size n uy).run P w' = .ok vs.toArray w':=fun w' po=>by
   rw[mh];exact FE gq yx (fun ad ha j v hj=>by rw[po];exact yw ad ha j v hj)
  split at hk
  ·rename_i v g fh off len
   split at hk
   ·rename_i t' cs fu
    have hv:=oW fu
    dsimp only at hv
    obtain⟨⟨rfl,LF,hlen,lW,vx⟩,hk⟩:=hk
    have R5:=LF.symm
    subst R5
    clear LF
    have Sd:v<H.length:=(af.1 hv).1
    cases h1 with
    | et _ _ _ _ _ cap L eC fH ie iF jN=>
     obtain⟨arr,vA,F1,QD,F3⟩:=sR h hv eC fH
     have Di:Cells c w (((((arr.toList.drop L.base).take cs.length)).drop (off*i.size)).take (len*i.size)) ((cs.drop (off*i.size)).take (len*i.size)):=(F3.drop _).take _
     rw[aV]at jN hlen
     generalize off*i.size=q at *
     by_cases yn:len+n≤cap
     ·have jL:L.base+q+len*i.size+vs.length≤arr.size:=by
       have hm:=bh i.size yn
       rw[aV]at hm
       omega
      have gf:=Zh (ty:=ty) ht hu hi L.b (L.base+q) len cap uy yb n yc mh vs arr vA (jM w fun _=>rfl) iA.one yn jL
      refine⟨_,_,gf,?_⟩
      have fL:(arr.toList.take (L.base+q+len*i.size)++vs++arr.toList.drop (L.base+q+len*i.size+vs.length)).toArray.size=arr.size:=by simp;omega
      obtain⟨m1,m2⟩:=Hr (w':=w.setRow L.b (arr.toList.take (L.base+q+len*i.size)++vs++arr.toList.drop (L.base+q+len*i.size+vs.length)).toArray) h hv eC ⟨L.b,L.base+q,L.top,false⟩ rfl
       ⟨⟨rfl,Nat.le_refl _⟩,rfl,rfl,by simp[World.setRow]⟩ (fun b _ hn=>by simp only[World.setRow,bC];rw[if_neg (fun e=>hn ⟨fH,e.symm⟩)])
       ⟨.inr ⟨fH,rfl⟩,by have:=h.lt _ ⟨v,L,⟨_,hv,rfl,eC⟩,fH,rfl⟩;simpa[World.setRow]using this⟩
       _ (setRow_heap w L.b arr _ _ _ vA) (by show L.top=_;rw[F1,fL]) ((cs.drop q).take (len*i.size)++ys) (by simp only[az,aP,bk];rw[← iA.len];omega) (fun j d hd=>by
        obtain⟨x,hx,mi,jH⟩:=(Di.append iA).get hd
        refine⟨x,?_,mi,jH⟩
        rw[← hx]
        simp only[cB]
        have iL:(List.take (L.base+q+len*i.size) arr.toList).length=L.base+q+len*i.size:=by simp;omega
        have ig:(List.take (len*i.size) (List.drop q (List.take cs.length (List.drop L.base arr.toList)))).length=len*i.size:=by simp;omega
        by_cases c1:j<len*i.size
        ·rw[ag (by simp;omega),ag (by rw[iL];omega),ag (by rw[ig];omega)]
         simp only[ay,aC]
         rw[if_pos (by omega),if_pos (by omega),if_pos (by omega)]
         congr 1;omega
        ·have lY:j<len*i.size+vs.length:=by have:=(af.1 hx).1;rw[az,ig]at this;omega
         rw[ag (by rw[az,iL];omega),aj (by rw[iL];omega),aj (by rw[ig];omega),iL,ig]
         congr 1
         omega)
      refine⟨_,_,_,hk,m1,?_,m2⟩
      have:=eu.et (c:=c.set v (g+1) ⟨L.b,L.base+q,L.top,false⟩) (w:=w.setRow L.b (arr.toList.take (L.base+q+len*i.size)++vs++arr.toList.drop (L.base+q+len*i.size+vs.length)).toArray) v (g+1) i.size 0 (len+n) cap ⟨L.b,L.base+q,L.top,false⟩ (Ctx.oB _ _ _ _) rfl yn iF (by simp;omega)
      simpa using this
     ·have hold:(Builtin.firstCells i.size len (.slice (some ⟨L.b,L.base+q,none⟩) len cap)).run P w.drew = .ok ((((arr.toList.drop L.base).take cs.length).drop q).take (len*i.size)).toArray w.drew:=by
       refine run_firstCells_some _ _ _ _ _ _ _ (by rw[Di.len];simp;omega) (fun j v hj=>?_)
       rw[ay]at hj
       split at hj
       ·rw[aC,ay]at hj
        split at hj
        ·rw[aC]at hj
         rw[Addr.add_lit]
         show w.cell? ⟨L.b,L.base+q+j,none⟩=some v
         simp[World.cell?,vA]
         rw[bf]
         simpa using hj
        ·cases hj
       ·cases hj
      have gf:=HW (ty:=ty) ht hu hi yy (some ⟨L.b,L.base+q,none⟩) len cap uy yb n yc mh _ vs hold (jM _ fun _=>rfl) (by omega) vx lW
      refine⟨_,_,gf,?_⟩
      have LD:((((arr.toList.drop L.base).take cs.length).drop q).take (len*i.size)).toArray.size=len*i.size:=by have:=Di.len;simp at this ⊢;omega
      have q6:=grownCap_ge w (len+n) cap e
      have lK:=grownCap_le_maxLen w (len+n) cap e (by unfold maxLen;omega)
      obtain⟨m1,m2⟩:=Hr (w':=w.drew.alloc (.cells (((((arr.toList.drop L.base).take cs.length).drop q).take (len*i.size)).toArray++vs.toArray++Builtin.zeroCells zv.cells (grownCap w (len+n) cap e-(len+n))) e)) h hv eC
       ⟨w.heap.size,0,grownCap w (len+n) cap e*i.size,false⟩ rfl ⟨⟨rfl,Nat.le_succ _⟩,rfl,rfl,by simp⟩ (fun b hb _=>(KB w _).kept b hb) ⟨.inl (Nat.le_refl _),by simp⟩
       _ (heap_alloc_new w.drew _) (by
        simp only[cg,LD,cW,gq,size_zeroCells,qm,← aV]
        congr 1;omega) ((cs.drop q).take (len*i.size)++ys) (by
        simp only[az,aP,bk,iM,aX]
        have:=bh i.size q6
        rw[aV]at this
        omega) (fun j d hd=>by
        obtain⟨x,hx,mi,jH⟩:=(Di.append iA).get hd
        refine⟨x,?_,mi,jH⟩
        rw[← hx,aX,← bq]
        have e7:=(af.1 hx).1
        simp only[cI]
        rw[ag (by simpa using e7)])
      refine⟨_,_,_,hk,m1,?_,m2⟩
      have:=eu.et (c:=c.set v (g+1) ⟨w.heap.size,0,grownCap w (len+n) cap e*i.size,false⟩) (w:=w.drew.alloc (.cells (((((arr.toList.drop L.base).take cs.length).drop q).take (len*i.size)).toArray++vs.toArray++Builtin.zeroCells zv.cells (grownCap w (len+n) cap e-(len+n))) e))
       v (g+1) i.size 0 (len+n) (grownCap w (len+n) cap e) ⟨w.heap.size,0,grownCap w (len+n) cap e*i.size,false⟩ (Ctx.oB _ _ _ _) rfl q6 lK (by simp)
      simpa using this
    | kd _ _ _ _ L eC ad=>
     simp only[aX,b9,b8,du,bJ]at hk lW vx ⊢
     by_cases hn:n=0
     ·subst hn
      have GV:vs = []:=aU (by simpa using gq)
      have Sx:ys = []:=aU (by simpa using iM)
      subst Sx
      have gf:(Builtin.append_ #[t,u] ty #[.slice ad 0 0,uy]).run P w = .ok (.slice ad 0 0) w:=by
       obtain⟨e',hu⟩:=hu
       have ua:=jM w fun _=>rfl
       rw[GV]at ua
       rw[mh]at ua ⊢
       simp[Builtin.append_,run_underlying ht,run_underlying hu,sizeOf,typeInfo,hi,Builtin.lenOf,ua]
       cases ad<;>simp[storeCells]
      obtain⟨m1,m2⟩:=Pm h hv eC
      exact⟨_,_,gf,_,_,_,hk,m1,.kd v (g+1) i.size 0 L (Ctx.oB _ _ _ _) ad,m2⟩
     ·have hold:(Builtin.firstCells i.size 0 (.slice ad 0 0)).run P w.drew = .ok ([]:List Value).toArray w.drew:=FE (by simp) (fun _=>rfl) (fun _ _ j v hj=>by simp at hj)
      have gf:=HW (w:=w) (ty:=ty) ht hu hi yy ad 0 0 uy yb n yc mh [] vs hold (jM _ fun _=>rfl) (by omega) (by omega) (by simpa using lW)
      simp only[aX]at gf
      refine⟨_,_,gf,?_⟩
      have q6:=grownCap_ge w n 0 e
      have lK:=grownCap_le_maxLen w n 0 e (by unfold maxLen;omega)
      obtain⟨m1,m2⟩:=Hr (w':=w.drew.alloc (.cells (([]:List Value).toArray++vs.toArray++Builtin.zeroCells zv.cells (grownCap w n 0 e-n)) e)) h hv eC
       ⟨w.heap.size,0,grownCap w n 0 e*i.size,false⟩ rfl ⟨⟨rfl,Nat.le_succ _⟩,rfl,rfl,by simp⟩ (fun b hb _=>(KB w _).kept b hb) ⟨.inl (Nat.le_refl _),by simp⟩
       _ (heap_alloc_new w.drew _) (by
        simp only[cg,cW,cw,gq,size_zeroCells,qm,aX,← aV]
        congr 1;omega) ys (by
        simp only[iM,aX]
        exact bh i.size q6) (fun j d hd=>by
        obtain⟨x,hx,mi,jH⟩:=iA.get hd
        refine⟨x,?_,mi,jH⟩
        rw[← hx,aX,← bq]
        have e7:=(af.1 hx).1
        simp only[cI,bJ]
        rw[ag (by simpa using e7)])
      refine⟨_,_,_,hk,m1,?_,m2⟩
      have:=eu.et (c:=c.set v (g+1) ⟨w.heap.size,0,grownCap w n 0 e*i.size,false⟩) (w:=w.drew.alloc (.cells (([]:List Value).toArray++vs.toArray++Builtin.zeroCells zv.cells (grownCap w n 0 e-n)) e))
       v (g+1) i.size 0 n (grownCap w n 0 e) ⟨w.heap.size,0,grownCap w n 0 e*i.size,false⟩ (Ctx.oB _ _ _ _) rfl q6 lK (by simp)
      simpa using this
   ·exact hk.elim
  ·cases h1 with
   | emp=>
    by_cases hn:n=0
    ·rw[if_pos hn]at hk
     subst hn
     have GV:vs = []:=aU (by simpa using gq)
     have gf:(Builtin.append_ #[t,u] ty #[.slice none 0 0,uy]).run P w = .ok (.slice none 0 0) w:=by
      obtain⟨e',hu⟩:=hu
      have ua:=jM w fun _=>rfl
      rw[GV]at ua
      rw[mh]at ua ⊢
      simp[Builtin.append_,run_underlying ht,run_underlying hu,sizeOf,typeInfo,hi,Builtin.lenOf,ua]
     exact⟨_,_,gf,.plain h hk .emp⟩
    ·rw[if_neg hn]at hk
     obtain⟨⟨lW,vx⟩,hk⟩:=hk
     have hold:(Builtin.firstCells i.size 0 (.slice none 0 0)).run P w.drew = .ok ([]:List Value).toArray w.drew:=FE (by simp) (fun _=>rfl) (fun _ _ j v hj=>by simp at hj)
     have gf:=HW (w:=w) (ty:=ty) ht hu hi yy none 0 0 uy yb n yc mh [] vs hold (jM _ fun _=>rfl) (by omega) (by omega) (by simpa using lW)
     simp only[aX]at gf
     refine⟨_,_,gf,?_⟩
     have q6:=grownCap_ge w n 0 e
     have lK:=grownCap_le_maxLen w n 0 e (by unfold maxLen;omega)
     have fL:(([]:List Value).toArray++vs.toArray++Builtin.zeroCells zv.cells (grownCap w n 0 e-n)).size=grownCap w n 0 e*i.size:=by
      simp only[cg,cW,cw,gq,size_zeroCells,qm,aX,← aV]
      congr 1;omega
     obtain⟨L,e1,e2,e3,e4,e5,e6⟩:=yU h w.drew (ia.drew w) e vs ys vs.length (([]:List Value).toArray++vs.toArray++Builtin.zeroCells zv.cells (grownCap w n 0 e-n)) (fr _).oY iA (by
      simp only[cI,bJ]
      exact List.take_left) (by simp only[cg,cW];omega)
     have hp:=D2 (c:=c) (w:=w.drew.alloc (.cells (([]:List Value).toArray++vs.toArray++Builtin.zeroCells zv.cells (grownCap w n 0 e-n)) e)) e1 e3 al.1 0 i.size n (grownCap w n 0 e) (by rw[e4,fL]) q6 lK
     rw[e2]at hp
     exact⟨_,_,_,hk,e5,hp,e6⟩
  ·exact hk.elim
 ·exact hk.elim
theorem XW(h:eN G c H w){t u ty e:TypeId}{sz:Nat}(ht:P.underlying t=some (.slice e))(hs:iC P e=some sz)(iu:0<sz){x y:D}{ux uy:Value}(h1:eu c w ux x)(h2:eu c w uy y)(hk:xC sz x y H K) :
  ∃ r w',(Builtin.copy_ #[t,u] ty #[ux,uy]).run P w = .ok r w'∧gA G c H w K r w':=by
 have key:∀ (ys:List D) (n:Nat),jt sz H y=some (ys,n)→∃ vs yb yc,uy = .slice yb n yc∧Cells c w vs ys∧ys.length=n*sz∧∀ m,m≤n→(Builtin.firstCells sz m uy).run P w = .ok (vs.take (m*sz)).toArray w:=by
  intro ys n mJ
  obtain⟨yb,yc,vs,mh,iA,iM,LP,yx,yw⟩:=Ia h iu h2 mJ
  refine⟨vs,yb,yc,mh,iA,iM,fun m hm=>?_⟩
  have gq:vs.length=n*sz:=by rw[iA.len,iM]
  have hle:=bh sz hm
  rw[mh]
  cases yb with
  | none=>
   have:=yx rfl
   subst this
   have:m=0:=by omega
   subst this
   simp[Builtin.firstCells]
  | some ad=>
   refine run_firstCells_some w sz m ad n yc _ (by simp;omega) (fun j v hj=>?_)
   rw[ay]at hj
   split at hj
   ·exact yw ad rfl j v hj
   ·cases hj
 unfold xC at hk
 split at hk
 ·rename_i v g fh off len ys n mJ
  obtain⟨vs,yb,yc,mh,iA,iM,Gd⟩:=key ys n mJ
  split at hk
  ·rename_i t' cs fu
   have hv:=oW fu
   dsimp only at hv
   obtain⟨⟨rfl,jL⟩,hk⟩:=hk
   have hf:=Gd (min n len) (Nat.min_le_left _ _)
   have hle:min n len*fh≤vs.length:=by rw[iA.len,iM];exact bh _ (Nat.min_le_left _ _)
   have afh:min n len*fh≤len*fh:=bh _ (Nat.min_le_right _ _)
   rw[aV]at jL
   cases h1 with
   | et _ _ _ _ _ cap L eC fH ie iF jN=>
    obtain⟨arr,vA,F1,QD,F3⟩:=sR h hv eC fH
    have eH:=run_storeCells_at P L.b (L.base+off*fh) t' (vs.take (min n len*fh)) 0 arr w vA (by simp;omega) (fun v hv=>iA.one v (aN hv))
    simp only[b9]at eH
    have gf:(Builtin.copy_ #[t,u] ty #[.slice (some ⟨L.b,L.base+off*fh,none⟩) len cap,uy]).run P w = .ok (goInt (min n len:Nat)) (w.setRow L.b (arr.toList.take (L.base+off*fh)++vs.take (min n len*fh)++arr.toList.drop (L.base+off*fh+(vs.take (min n len*fh)).length)).toArray):=by
     rw[mh]at hf ⊢
     have hm:n.min len=min n len:=rfl
     simp[Builtin.copy_,run_underlying ht,Builtin.lenOf,nL hs,hm,hf,eH]
    have gq:(vs.take (min n len*fh)).length=min n len*fh:=by simp;omega
    have KR:=F3.nk (iA.take (min n len*fh)) (off*fh)
    have Ss:(ys.take (min n len*fh)).length=min n len*fh:=by rw[aP,← iA.len];omega
    obtain⟨m1,m2⟩:=zS h hv eC fH vA (arr.toList.take (L.base+off*fh)++vs.take (min n len*fh)++arr.toList.drop (L.base+off*fh+(vs.take (min n len*fh)).length)).toArray (by simp;omega) F1
     (cs.take (off*fh)++ys.take (min n len*fh)++cs.drop (off*fh+min n len*fh)) (by simp only[az,aP,bk];omega) (fun j d hd=>by
      rw[Ss,gq]at KR
      obtain⟨x,hx,mi,jH⟩:=KR.get hd
      refine⟨x,?_,mi,jH⟩
      rw[← hx]
      simp only[cB,gq]
      have iL:(List.take (L.base+off*fh) arr.toList).length=L.base+off*fh:=by simp;omega
      have ig:(List.take (off*fh) (List.take cs.length (List.drop L.base arr.toList))).length=off*fh:=by simp;omega
      by_cases c1:j<off*fh
      ·rw[ag (by simp;omega),ag (by rw[iL];omega),ag (by simp;omega),ag (by rw[ig];omega)]
       simp only[ay,aC]
       rw[if_pos (by omega),if_pos c1,if_pos (by omega)]
      ·by_cases c2:j<off*fh+min n len*fh
       ·rw[ag (by rw[az,iL,gq];omega),aj (by rw[iL];omega),ag (by rw[az,ig,gq];omega),aj (by rw[ig];omega),iL,ig]
        congr 1
        omega
       ·have lr:j<cs.length:=by have:=(af.1 hd).1;simp at this;omega
        rw[aj (by rw[az,iL,gq];omega),aj (by rw[az,ig,gq];omega)]
        simp only[aC,ay,az,iL,ig,gq]
        rw[if_pos (by omega)]
        congr 1
        omega)
    exact⟨_,_,gf,_,_,c,hk,m1,.val _,m2⟩
   | kd _ _ _ _ L eC ad=>
    have ye:min n 0=0:=eo n
    simp only[ye,b8,du,av,b9,bK]at hk hf
    have pk:H.set v (.row t' g cs)=H:=by
     apply bI
     intro j
     rw[bH]
     have gq:v<H.length:=(af.1 hv).1
     split
     ·rename_i e
      subst e
      first|(rw[if_pos gq];exact hv.symm)|exact hv.symm
     ·rfl
    rw[pk]at hk
    refine⟨goInt 0,w,?_,.plain h hk (.val _)⟩
    rw[mh]at hf ⊢
    have hm:n.min 0=0:=eo n
    simp[Builtin.copy_,run_underlying ht,Builtin.lenOf,nL hs,hm,hf]
    cases ad<;>simp[storeCells]
  ·exact hk.elim
 ·rename_i q mJ
  obtain⟨ys,n⟩:=q
  obtain⟨vs,yb,yc,mh,iA,iM,Gd⟩:=key ys n mJ
  cases h1 with
  | emp=>
   have hf:=Gd 0 (Nat.zero_le _)
   refine⟨goInt 0,w,?_,.plain h hk (.val _)⟩
   rw[mh]at hf ⊢
   have hm:n.min 0=0:=eo n
   simp only[b8,du]at hf
   simp[Builtin.copy_,run_underlying ht,Builtin.lenOf,nL hs,hm,hf]
 ·exact hk.elim
end
end Go.AL
namespace Go.AL
open Go
section
variable{P:Program}{G:GT}{c:Ctx}{H:U}{w:World}{K:gN}{env:e9}{a:Act}
theorem L9{x:D}{kv u:Value}(hr:eu c w u x)(h:keyOf x=some kv):u=kv:=by
 unfold keyOf at h
 split at h
 ·cases h;cases hr;rfl
 ·cases h;cases hr;rfl
 ·cases h;cases hr;rfl
 ·rename_i cs
  simp only[ai]at h
  obtain⟨l,hl,rfl⟩:=h
  cases hr with
  | agg vs _ hlen _ h1=>
   have key:∀ (cs:List D) (vs l:List Value),yG cs=some l→vs.length=cs.length→(∀ (i:Nat) (v:Value) (d:D),vs[i]? = some v→cs[i]? = some d→eu c w v d)→vs=l:=by
    intro cs
    induction cs with
    | nil=>intro vs l hl hlen _;simp[yG]at hl;subst hl;exact aU (by simpa using hlen)
    | cons d cs ih=>
     intro vs l hl hlen h1
     cases vs with
     | nil=>simp at hlen
     | cons v vs=>
      unfold yG at hl
      split at hl
      ·rename_i heq;cases heq
      ·rename_i k n r heq
       cases heq
       simp only[ai]at hl
       obtain⟨l',jZ,rfl⟩:=hl
       have h0:=h1 0 v _ rfl rfl
       cases h0
       rw[ih vs l' jZ (by simpa using hlen) (fun i v d hv hd=>h1 (i+1) v d (by simpa using hv) (by simpa using hd))]
      ·cases hl
   rw[key cs vs l hl hlen h1]
 ·cases h
theorem Ii{t:TypeId}{kk:KK}(h:qo P t=some kk):∃ d,P.underlying t=some d∧((∃ k,d = .int k∧kk = .int k)∨(d = .string∧kk = .str)∨(d = .bool∧kk = .bool)):=by
 unfold qo at h
 split at h
 ·rename_i k hu;cases h;exact⟨_,hu,.inl ⟨k,rfl,rfl⟩⟩
 ·rename_i hu;cases h;exact⟨_,hu,.inr (.inl ⟨rfl,rfl⟩)⟩
 ·rename_i hu;cases h;exact⟨_,hu,.inr (.inr ⟨rfl,rfl⟩)⟩
 ·cases h
theorem run_checkKey{t:TypeId}{kk:KK}(h:qo P t=some kk)(b:Bool){kv:Value}(_hk:kk.has kv=true)(w:World):(Instr.checkKey b 10000 t kv).run P w = .ok () w:=by
 obtain⟨d,hd,hc⟩:=Ii h
 unfold Instr.checkKey
 rcases hc with⟨k,rfl,rfl⟩|⟨rfl,rfl⟩|⟨rfl,rfl⟩<;>simp only[Sem.run_bind,run_underlying hd,Result.andThen_ok]<;>rfl
def o9(kv:Value):List MapEntry→Nat→Option (Nat×Value)
 | [],_=>none
 | e::es,i=>if oh kv e.key then some (i,e.val)else o9 kv es (i+1)
theorem P1{d:TypeDesc}{kk:KK}(hc:(∃ k,d = .int k∧kk = .int k)∨(d = .string∧kk = .str)∨(d = .bool∧kk = .bool)){kv:Value}(hk:kk.has kv=true) :
  ∀ (es:List MapEntry) (i:Nat),(∀ e∈es,kk.has e.key=true)→Instr.findNow d kv es i=some (o9 kv es i):=by
 intro es
 induction es with
 | nil=>intro i _;rfl
 | cons e es ih=>
  intro i h
  have he:=h e (by simp)
  have SG:=ih (i+1) (fun e he=>h e (by simp[he]))
  unfold Instr.findNow o9
  have hs:Instr.sameNow d kv e.key=some (oh kv e.key):=by
   obtain⟨key,val,born⟩:=e
   rcases hc with⟨k,rfl,rfl⟩|⟨rfl,rfl⟩|⟨rfl,rfl⟩<;>cases kv<;>simp[KK.has]at hk<;>cases key<;>simp[KK.has]at he<;>simp[Instr.sameNow,oh]
   subst hk;subst he;simp
  rw[hs]
  cases oh kv e.key
  ·simp only[SG];rfl
  ·rfl
theorem run_findKey{t:TypeId}{kk:KK}(h:qo P t=some kk){kv:Value}(hk:kk.has kv=true)(es:List MapEntry)(qY:∀ e∈es,kk.has e.key=true)(w:World) :
  (Instr.findKey t kv es).run P w = .ok (o9 kv es 0) w:=by
 obtain⟨d,hd,hc⟩:=Ii h
 simp[Instr.findKey,run_underlying hd,P1 hc hk es 0 qY]
theorem Ms{arr:Array MapEntry}{clock:Nat}{es:List (Value×D)}(hm:w8 c w arr clock es){kk:KK}(hk:∀ x∈es,kk.has x.1=true):∀ e∈arr.toList,kk.has e.key=true:=by
 intro e he
 obtain⟨i,hi⟩:=aD.1 he
 have hl:i<es.length:=by rw[← hm.1];have:=(af.1 hi).1;simpa using this
 obtain⟨h1,_⟩:=hm.2.1 i e es[i] (by simpa using hi) (by simp[hl])
 rw[h1]
 exact hk _ (bz hl)
theorem FD(kv:Value):∀ (l:List MapEntry) (es:List (Value×D)) (i:Nat),l.length=es.length →
  (∀ (j:Nat) (e:MapEntry) (x:Value×D),l[j]? = some e→es[j]? = some x→e.key=x.1∧eu c w e.val x.2) →
  (o9 kv l i=none∧mq es kv=none∧∀ y,kG es kv y=es ++ [(kv,y)]) ∨
  (∃ j v d,o9 kv l i=some (i+j,v)∧mq es kv=some d∧eu c w v d∧j<l.length∧(∀ y,kG es kv y=es.set j (kv,y))∧∃ e,l[j]? = some e∧oh kv e.key=true)
 | [],[],i,_,_=>.inl ⟨rfl,rfl,fun _=>rfl⟩
 | e::l,(k,d)::es,i,hl,h=>by
  obtain⟨hk,hr⟩:=h 0 e (k,d) rfl rfl
  dsimp only at hk hr
  by_cases he:oh kv e.key=true
  ·refine .inr ⟨0,e.val,d,by simp[o9,he],by simp[mq,← hk,he],hr,by simp,fun y=>by simp[kG,← hk,he],e,rfl,he⟩
  ·have tN:oh kv k=false:=by rw[← hk];simpa using he
   rcases FD kv l es (i+1) (by simpa using hl) (fun j e x he hx=>h (j+1) e x (by simpa using he) (by simpa using hx))with⟨h1,h2,h3⟩|⟨j,v,d',h1,h2,h3,h4,h5,e',h6,h7⟩
   ·exact .inl ⟨by simp[o9,he,h1],by simp[mq,tN,h2],fun y=>by simp[kG,tN,h3]⟩
   ·exact .inr ⟨j+1,v,d',by simp[o9,he,h1];omega,by simp[mq,tN,h2],h3,by simp;omega,fun y=>by simp[kG,tN,h5],e',by simpa using h6,h7⟩
theorem Yf(h:eN G c H w){t k e:TypeId}{kk:KK}{z:D}(hu:P.underlying t=some (.map k e))(jY:qo P k=some kk)(hz:Ip P e=some z)(ok:Bool){m x:D}{u v:Value}(h1:eu c w u m)(h2:eu c w v x)
  (hk:yL kk z ok m x H K):∃ r,(Instr.lookup t u v ok).run P w = .ok r w∧gA G c H w K r w:=by
 have hzero:∃ zv,(zeroValue e).run P w = .ok zv w∧eu c w zv z:=by
  unfold Ip at hz
  cases hi:P.info? e with
  | none=>simp[hi]at hz
  | some i=>
   simp only[hi,Option.bind_some]at hz
   cases GZ:i.zero with
   | none=>simp[GZ]at hz
   | some zv=>
    simp only[GZ,Option.bind_some]at hz
    exact⟨zv,by simp[zeroValue,run_typeInfo hi,GZ],Nb hz⟩
 obtain⟨zv,rj,LQ⟩:=hzero
 unfold yL at hk
 split at hk
 ·rename_i v0 kv Gj
  split at hk
  ·rename_i nJ es qY
   obtain⟨rfl,tQ,hk⟩:=hk
   have hv:=L9 h2 Gj
   subst hv
   cases h1 with
   | omap _ L eC fH=>
    have fC:=h.ob v0 _ (sM qY)
    simp only[Ob.gen]at fC
    rw[eC]at fC
    simp only[fo]at fC
    obtain⟨_,Dd,arr,clock,hm,lu⟩:=fC
    have C':=run_findKey jY tQ arr.toList (Ms lu Dd) w
    have C9:=run_checkKey (w:=w) jY arr.isEmpty tQ
    have gf:(Instr.lookup t (.map (some L.b)) v ok).run P w=((match o9 v arr.toList 0 with
      | some (_,v)=>Result.ok (v,true) w
      | none=>Result.ok (zv,false) w:Result (Value×Bool)).andThen fun p w=>.ok (if ok then .tuple #[p.1,.bool p.2]else p.1) w):=by
     have x5:(getObj L.b).run P w = .ok (.map arr clock) w:=by simp[getObj,Sem.run,hm]
     simp only[Instr.lookup,Sem.run_bind,run_underlying hu,Result.andThen_ok,x5,Sem.run_pure,C9,C']
     cases o9 v arr.toList 0 with
     | none=>simp[rj]
     | some p=>obtain⟨_,_⟩:=p;simp
    rcases FD (c:=c) (w:=w) v arr.toList es 0 (by simpa using lu.1) (fun j e x he hx=>let ⟨a,b,_⟩:=lu.2.1 j e x (by simpa using he) hx;⟨a,b⟩)with⟨f1,f2,_⟩|⟨j,val,d,f1,f2,f3,_⟩
    ·rw[f1]at gf
     rw[f2]at hk
     refine⟨_,gf,.plain h hk ?_⟩
     cases ok
     ·exact LQ
     ·exact .tup [zv,.bool false] [z,.val (.bool false)] rfl (fun i v d hv hd=>by
       match i with
       | 0=>simp at hv hd;subst hv;subst hd;exact LQ
       | 1=>simp at hv hd;subst hv;subst hd;exact .val _
       | i+2=>simp at hv)
    ·rw[f1]at gf
     rw[f2]at hk
     refine⟨_,gf,.plain h hk ?_⟩
     cases ok
     ·exact f3
     ·exact .tup [val,.bool true] [d,.val (.bool true)] rfl (fun i v d' hv hd=>by
       match i with
       | 0=>simp at hv hd;subst hv;subst hd;exact f3
       | 1=>simp at hv hd;subst hv;subst hd;exact .val _
       | i+2=>simp at hv)
  ·exact hk.elim
 ·exact hk.elim
theorem Zl{kk:KK}(jY:kk = .str∨kk = .bool∨∃ k,kk = .int k){old new:Value}(h1:kk.has new=true)(h2:kk.has old=true)(h:oh new old=true):Instr.sameBits 10000 old new=true:=by
 rcases jY with rfl|rfl|⟨k,rfl⟩<;>cases new<;>simp[KK.has]at h1<;>cases old<;>simp[KK.has]at h2<;>simp[oh]at h<;>simp[Instr.sameBits]
 ·rename_i x y
  obtain⟨x⟩:=x
  obtain⟨y⟩:=y
  have h':(x == y)=true:=h
  have e:=eq_of_beq h'
  subst e
  exact h
 ·exact h.symm
 ·exact⟨h.1.symm,h.2.symm⟩
theorem zQ{G:GT}{c:Ctx}{H:U}{w:World}(h:eN G c H w){v:Nat}{ob ob':Ob}(hv:H[v]? = some ob)(ha:ob.alive=true)(nG:ob'.alive=true)(Da:ob'.gen=ob.gen){L:Loc}(eC:c.ι v ob.gen=some L)(fH:L.gM=false)(o':Obj)
  (fC:∀ w',w'.heap[L.b]? = some o'→(∀ u d,eu c w u d→eu c w' u d)→fo c w' (some L) ob') :
  eN G c (H.set v ob') { w with heap:=w.heap.setIfInBounds L.b o' }∧Step H.length c H w c (H.set v ob') { w with heap:=w.heap.setIfInBounds L.b o' }:=by
 have e7:=h.lt _ ⟨v,L,⟨ob,hv,ha,eC⟩,fH,rfl⟩
 refine NY (w':={ w with heap:=w.heap.setIfInBounds L.b o' }) h hv ha nG Da eC fH ⟨rfl,Nat.le_refl _⟩ rfl rfl (by simp) (fun b hb=>?_) (fC _ (by simp[e7]))
 rw[bt (dg hb)]
theorem TN{es:List (Value×D)}{kv:Value}{y:D}:∀ x∈kG es kv y,x∈es∨x=(kv,y):=by
 induction es with
 | nil=>intro x hx;simp[kG]at hx;exact .inr hx
 | cons e es ih=>
  intro x hx
  obtain⟨k,d⟩:=e
  simp only[kG]at hx
  split at hx
  ·rcases ax.1 hx with rfl|hx
   ·exact .inr rfl
   ·exact .inl (by simp[hx])
  ·rcases ax.1 hx with rfl|hx
   ·exact .inl (by simp)
   ·rcases ih x hx with h|h
    ·exact .inl (by simp[h])
    ·exact .inr h
theorem ML(h:eN G c H w){t k e:TypeId}{kk:KK}(hu:P.underlying t=some (.map k e))(jY:qo P k=some kk){m x y:D}{u v vy:Value}(h1:eu c w u m)(h2:eu c w v x)(h3:eu c w vy y)
  (hk:yO kk m x y H K):∃ w',(Instr.mapUpdate t u v vy).run P w = .ok () w'∧gA G c H w K undef w':=by
 have RM:kk = .str∨kk = .bool∨∃ k,kk = .int k:=by
  obtain⟨d,_,hc⟩:=Ii jY
  rcases hc with⟨k,_,rfl⟩|⟨_,rfl⟩|⟨_,rfl⟩
  ·exact .inr (.inr ⟨k,rfl⟩)
  ·exact .inl rfl
  ·exact .inr (.inl rfl)
 unfold yO at hk
 split at hk
 ·rename_i v0 kv Gj
  split at hk
  ·rename_i nJ es qY
   obtain⟨rfl,tQ,hk⟩:=hk
   have hv:=L9 h2 Gj
   subst hv
   cases h1 with
   | omap _ L eC fH=>
    have fC:=h.ob v0 _ (sM qY)
    simp only[Ob.gen]at fC
    rw[eC]at fC
    simp only[fo]at fC
    obtain⟨_,Dd,arr,clock,hm,lu⟩:=fC
    have KL:=Ms lu Dd
    have C':=run_findKey jY tQ arr.toList KL w
    have C9:=run_checkKey (w:=w) jY false tQ
    have K6:∀ y',∀ x∈kG es v y',nJ.has x.1=true:=fun y' x hx=>by
     rcases TN x hx with h|rfl
     ·exact Dd x h
     ·exact tQ
    rcases FD (c:=c) (w:=w) v arr.toList es 0 (by simpa using lu.1) (fun j e x he hx=>let ⟨a,b,_⟩:=lu.2.1 j e x (by simpa using he) hx;⟨a,b⟩)with⟨f1,f2,f3⟩|⟨j,val,d,f1,f2,_,f4,f5,e',f6,f7⟩
    ·have gf:(Instr.mapUpdate t (.map (some L.b)) v vy).run P w = .ok () { w with heap:=w.heap.setIfInBounds L.b (.map (arr.push { key:=v,val:=vy,born:=clock }) (clock+1)) }:=by
      have x5:(getObj L.b).run P w = .ok (.map arr clock) w:=by simp[getObj,Sem.run,hm]
      simp only[Instr.mapUpdate,Sem.run_bind,run_underlying hu,Result.andThen_ok,x5,C9,C',f1]
      simp[setObj,Sem.run,hm]
     obtain⟨m1,m2⟩:=zQ h (sM qY) rfl rfl rfl eC fH (.map (arr.push { key:=v,val:=vy,born:=clock }) (clock+1)) (ob':=.map nJ (kG es v y)) (by
      intro w' po hr
      simp only[fo]
      refine⟨fH,K6 y,_,_,po,?_⟩
      rw[f3]
      refine⟨by simp[lu.1],fun i e x he hx=>?_,by simp[lu.2.2]⟩
      rw[Array.getElem?_push]at he
      split at he
      ·rename_i hi
       cases he
       rw[aj (by rw[hi,lu.1];exact Nat.le_refl _),hi,lu.1]at hx
       simp at hx
       subst hx
       exact⟨rfl,hr _ _ h3,by rw[hi,lu.1,lu.2.2]⟩
      ·have hi:i<es.length:=by rw[← lu.1];exact(aI.1 he).1
       rw[ag hi]at hx
       obtain⟨p,q,r⟩:=lu.2.1 i e x he hx
       exact⟨p,hr _ _ q,r⟩)
     exact⟨_,gf,.any,_,c,hk,m1,.any _,m2⟩
    ·have lY:j<arr.size:=by simpa using f4
     have x7:arr[j]? = some e':=by simpa using f6
     have Rj:nJ.has e'.key=true:=KL e' (aY f6)
     have R2:(Instr.keyThatStays e'.key v).run P w = .ok v w:=by
      simp[Instr.keyThatStays,Zl RM tQ Rj f7]
     have gf:(Instr.mapUpdate t (.map (some L.b)) v vy).run P w = .ok () { w with heap:=w.heap.setIfInBounds L.b (.map (arr.modify j fun e=>{ e with key:=v,val:=vy }) clock) }:=by
      have x5:(getObj L.b).run P w = .ok (.map arr clock) w:=by simp[getObj,Sem.run,hm]
      simp only[Instr.mapUpdate,Sem.run_bind,run_underlying hu,Result.andThen_ok,x5,C9,C',f1,aX,x7,a8,aR,R2]
      simp[setObj,Sem.run,hm]
     obtain⟨m1,m2⟩:=zQ h (sM qY) rfl rfl rfl eC fH (.map (arr.modify j fun e=>{ e with key:=v,val:=vy }) clock) (ob':=.map nJ (kG es v y)) (by
      intro w' po hr
      simp only[fo]
      refine⟨fH,K6 y,_,_,po,?_⟩
      rw[f5]
      refine⟨by simp[lu.1],fun i e x he hx=>?_,by simp[lu.2.2]⟩
      ·rw[bC]at he
       rw[bH]at hx
       split at he
       ·rename_i hi
        subst hi
        rw[if_pos rfl]at hx
        simp only[ai]at he
        obtain⟨e0,h0,rfl⟩:=he
        split at hx
        ·cases hx
         have hj:j<es.length:=by rw[← lu.1];exact lY
         exact⟨rfl,hr _ _ h3,(lu.2.1 j e0 es[j] h0 (by simp[hj])).2.2⟩
        ·cases hx
       ·rename_i hi
        rw[if_neg hi]at hx
        obtain⟨p,q,r⟩:=lu.2.1 i e x he hx
        exact⟨p,hr _ _ q,r⟩)
     exact⟨_,gf,.any,_,c,hk,m1,.any _,m2⟩
  ·exact hk.elim
 ·exact hk.elim
end
end Go.AL
namespace Go.AL
open Go
section
variable{P:Program}{G:GT}{c:Ctx}{H:U}{w:World}{K:gN}{env:e9}{a:Act}
theorem Tl{t:TypeId}{l:lB}(hl:uk P t=some l)(d:Nat){x y:D}{u v:Value}(h1:eu c w u x)(h2:eu c w v y){r:Bool}(h:o5 l x y=some r):(Op.equalIn (d+1) t u v).run P w = .ok r w:=by
 unfold o5 at h
 split at h
 ·rename_i k m k' n
  cases h1;cases h2
  split at h
  ·rename_i e
   subst e
   cases h
   unfold uk at hl
   split at hl
   ·rename_i k0 hu;exact run_equalIn_int w d t k k0 m n hu
   ·cases hl
   ·cases hl
   ·cases hl
  ·cases h
 ·cases h1;cases h2
  cases h
  unfold uk at hl
  split at hl
  ·cases hl
  ·cases hl
  ·rename_i hu;exact run_equalIn_bool' w d t _ _ hu
  ·cases hl
 ·cases h1;cases h2
  cases h
  rename_i p q
  unfold uk at hl
  split at hl
  ·cases hl
  ·rename_i hu
   have:=run_equalIn_string (P:=P) w d t p q hu
   rw[ByteArray.toList_eq,ByteArray.toList_eq]at this
   exact this
  ·cases hl
  ·cases hl
 ·cases h
theorem Tk{t:TypeId}{l:lB}(hl:uk P t=some l):lR P t=some false:=by
 unfold uk at hl
 unfold lR
 split at hl<;>first|(rename_i hu;simp[hu])|(rename_i k hu;simp[hu])|cases hl
theorem Kd(d:Nat){vs us:List Value}{xs ys:List D}(hx:Cells c w vs xs)(hy:Cells c w us ys):∀ (fs:List Field) (i:Nat) (ls:List lB) (r:Bool),CL P i fs=some ls→lh ls (xs.drop i) (ys.drop i)=some r →
  (Op.eqFields (d+1) vs.toArray us.toArray fs).run P w = .ok r w
 | [],i,ls,r,he,hc=>by
  cases he
  unfold lh at hc
  split at hc
  ·cases hc;rfl
  ·rename_i heq _ _;cases heq
  ·cases hc
 | f::fs,i,ls,r,he,hc=>by
  simp only[CL]at he
  split at he
  ·rename_i l TF hl yd
   split at he
   ·rename_i gG
    obtain⟨Lj,RB⟩:=gG
    cases he
    cases yv:xs.drop i with
    | nil=>rw[yv]at hc;simp[lh]at hc
    | cons x xr=>
     cases Dy:ys.drop i with
     | nil=>rw[yv,Dy]at hc;simp[lh]at hc
     | cons y yr=>
      rw[yv,Dy]at hc
      simp only[lh]at hc
      split at hc
      ·rename_i p q hp hq
       cases hc
       have Sj:xs[i]? = some x:=by have:=congrArg (·[0]?) yv;simpa using this
       have Sr:ys[i]? = some y:=by have:=congrArg (·[0]?) Dy;simpa using this
       have Sl:xs.drop (i+1)=xr:=by rw[← cS,yv];rfl
       have Sv:ys.drop (i+1)=yr:=by rw[← cS,Dy];rfl
       obtain⟨u,hu,_,R9⟩:=hx.get Sj
       obtain⟨v,hv,_,GU⟩:=hy.get Sr
       have ih:=Kd d hx hy fs (i+1) TF q yd (by rw[Sl,Sv];exact hq)
       have hle:=Tl (w:=w) hl d R9 GU hp
       have ha:=zt (Tk hl) w
       have uc:(part f.type vs.toArray f.offset).run P w = .ok u w:=by simp[part,ha,Lj,hu]
       have vK:(part f.type us.toArray f.offset).run P w = .ok v w:=by simp[part,ha,Lj,hv]
       simp only[Op.eqFields,if_pos RB,Sem.run_bind,uc,vK,Result.andThen_ok,hle,Sem.run_ite,ih]
       cases p<;>simp
      ·cases hc
   ·cases he
  ·cases he
theorem MK(h:eN G c H w){t:TypeId}{ls:List lB}(ht:CM P t=some ls)(neg:Bool){x y:D}{u v:Value}(h1:eu c w u x)(h2:eu c w v y)(hk:se true ls neg x y H K)(xo yo:Operand) :
  ∃ r,(do eqGuard (if neg then .neq else .eql) t xo yo u v;binOp (if neg then .neq else .eql) t u v).run P w = .ok r w∧gA G c H w K r w:=by
 unfold CM at ht
 split at ht
 ·rename_i fs hu
  split at ht
  ·rename_i gG
   have hf:P.underlying t=some (.struct (P.fieldsOf t)):=by unfold Program.fieldsOf;rw[hu]
   have Q3:P.fieldsOf t=fs:=by unfold Program.fieldsOf;rw[hu]
   have hx:∃ cs ds,x = .agg cs∧y = .agg ds:=by
    unfold se at hk
    split at hk
    ·exact⟨_,_,rfl,rfl⟩
    ·contradiction
    ·exact hk.elim
   obtain⟨cs,ds,rfl,rfl⟩:=hx
   simp only[se]at hk
   split at hk
   ·rename_i r hr
    cases h1 with
    | agg vs _ iL xP Qj=>
     cases h2 with
     | agg us _ ig Ql Qm=>
      have QW:Cells c w vs cs:=⟨iL,xP,Qj⟩
      have QX:Cells c w us ds:=⟨ig,Ql,Qm⟩
      have gf:=Kd (P:=P) 9998 QW QX fs.toList 0 ls r ht (by simpa using hr)
      have heq:(Op.equalIn 10000 t (.agg vs.toArray) (.agg us.toArray)).run P w = .ok r w:=by
       rw[run_equalIn_struct w 9999 t vs.toArray us.toArray hf gG.1,Q3]
       exact gf
      cases neg
      ·simp only[bw,if_false,Sem.run_bind,run_eqGuard_agg w .eql t xo yo vs.toArray us.toArray gG.2,Result.andThen_ok,run_eql_struct,heq]
       exact⟨_,rfl,.val h (by simpa using hk)⟩
      ·simp only[if_true,Sem.run_bind,run_eqGuard_agg w .neq t xo yo vs.toArray us.toArray gG.2,Result.andThen_ok,run_neq_struct,heq]
       exact⟨_,rfl,.val h (by simpa using hk)⟩
   ·exact hk.elim
  ·cases ht
 ·cases ht
theorem MJ(h:eN G c H w){t:TypeId}(hu:P.underlying t=some .bool)(neg:Bool){x y:D}{u v:Value}(h1:eu c w u x)(h2:eu c w v y)(hk:se false [.bool] neg x y H K)(xo yo:Operand) :
  ∃ r,(do eqGuard (if neg then .neq else .eql) t xo yo u v;binOp (if neg then .neq else .eql) t u v).run P w = .ok r w∧gA G c H w K r w:=by
 simp only[se]at hk
 split at hk
 ·rename_i r hr
  simp only[lh]at hr
  split at hr
  ·rename_i p q hp hq
   cases hq
   cases hr
   unfold o5 at hp
   split at hp
   ·contradiction
   ·cases h1;cases h2
    cases hp
    rename_i b b' _
    have heq:=run_equalIn_bool' (P:=P) w 9999 t b b' hu
    have fG:Op.equal t (.bool b) (.bool b')=Op.equalIn 10000 t (.bool b) (.bool b'):=rfl
    cases neg
    ·exact⟨_,by simp[eqGuard,binOp,fG,heq]<;>rfl,.val h (by simpa using hk)⟩
    ·exact⟨_,by simp[eqGuard,binOp,fG,heq]<;>rfl,.val h (by simpa using hk)⟩
   ·contradiction
   ·cases hp
  ·cases hr
 ·exact hk.elim
theorem Ej{f:FuncId}(h:nB P f=true)(args:Array Value)(w:World):(callFunc f args).run P w = .ok (.enter f args) w:=by
 unfold nB at h
 split at h
 ·rename_i fn hf
  simp only[ah,bne_iff_ne,ne_eq]at h
  have hb:fn.body.isNone=false:=by cases hb:fn.body<;>simp[hb]at h ⊢
  simp[callFunc,hf,h.1]
  intro e
  rw[e]at hb
  cases hb
 ·cases h
end
end Go.AL
namespace Go.AL
open Go
section
variable{P:Program}{G:GT}{c:Ctx}{H:U}{w:World}{K:gN}{env:e9}{a:Act}
def u9(r:Result Next)(v:Value)(w':World):Prop:=r = .ok (.value v) w'∨(r = .ok .skip w'∧v=undef)
theorem gT{s:Sem Value}{v:Value}{w':World}(h:s.run P w = .ok v w'):u9 ((do pure (.value (← s)):Sem Next).run P w) v w':=.inl (by simp[h])
theorem EP{s:Sem Unit}{w':World}(h:s.run P w = .ok () w'):u9 ((do s;pure .skip:Sem Next).run P w) undef w':=.inr ⟨by simp[h],rfl⟩
theorem XV(h:eN G c H w){s d:TypeId}{sd:TypeDesc}{k:IntKind}(hs:P.underlying s=some sd)(hd:P.underlying d=some (.int k)){x:D}{u:Value}(h1:eu c w u x)
  (hk:xy k x H K):∃ r,(convert s d u).run P w = .ok r w∧gA G c H w K r w:=by
 unfold xy at hk
 split at hk
 ·rename_i k' n
  cases h1
  have Gg:P.intKind d=k:=by simp[Program.intKind,hd]
  have:=run_convert_int (P:=P) w s d k' n (by rw[hs];rfl) (by rw[Gg];exact hd)
  rw[Gg]at this
  exact⟨_,this,.val h hk⟩
 ·exact hk.elim
theorem Yl(h:eN G c H w){o:Oper}{x:Operand}(ho:o.op = .nilCheck x){d:D}(h1:eu c w (a.eval x) d)
  (hk:yW d H K):∃ v w',u9 ((execOp a.eval o).run P w) v w'∧gA G c H w K v w':=by
 have key:∀ v,a.eval x=v→(match v with | .pointer (some _)=>True | .func (.func _) _ _=>True | .func (.yield _) _ _=>True|_=>False)→u9 ((execOp a.eval o).run P w) v w:=by
  intro v hv hm
  refine .inl ?_
  simp only[execOp,ho,hv]
  split at hm<;>simp_all
 generalize hv:a.eval x=v at h1
 unfold yW at hk
 split at hk
 ·cases h1 with
  | ptr _ _ _ L eC jO=>exact⟨_,w,key _ hv trivial,.plain h hk (.ptr _ _ _ L eC jO)⟩
 ·obtain⟨b,p,e,hF,hc⟩:=th h1
  subst e
  exact⟨_,w,key _ hv trivial,.plain h hk h1⟩
 ·cases h1 with
  | fn f fs cs df dc e1 e2 e3 e4=>exact⟨_,w,key _ hv trivial,.plain h hk (.fn _ fs cs _ _ e1 e2 e3 e4)⟩
 ·cases h1 with
  | gv _ L eC jO=>exact⟨_,w,key _ hv trivial,.plain h hk (.gv _ L eC jO)⟩
 ·exact hk.elim
theorem HN{l:Array Operand}{xs:List D}(h:gD c w (l.toList.map a.eval) xs):∃ vs:List Value,l.map a.eval=vs.toArray∧gD c w vs xs:=
 ⟨_,by cases l;simp,h⟩
theorem qy{o:Oper}{cl:Call}(ho:o.op = .call cl){b:Builtin}(hb:cl.callee = .builtin b):(execOp a.eval o).run P w=(builtin b cl.argTypes o.type (cl.args.map fun | .const _=>true|_=>false) (cl.args.map a.eval)).run P w:=by
 simp only[execOp,ho,resolve,hb,Sem.run_bind,Sem.run_pure,Result.andThen_ok,invoke]
 rfl
theorem M0(h:eN G c H w)(he:iP c w env a){al:Al}(fr:jS H al){o:Oper}{io:fR}(hc:kg P G o=some io)(hk:xc env H al K io) :
  ∃ v w',u9 ((execOp a.eval o).run P w) v w'∧gA G c H w K v w':=by
 unfold kg at hc
 cases ho:o.op with
 | move x=>
  simp only[ho,au,ae,aF,aq]at hc
  obtain⟨X,hX,rfl⟩:=hc
  exact⟨_,w,.inl (by simp only[execOp,ho];rfl),.plain h hk (fY h he hX)⟩
 | assign x=>
  simp only[ho,au,ae,aF,aq]at hc
  obtain⟨X,hX,rfl⟩:=hc
  exact⟨_,w,.inl (by simp only[execOp,ho];rfl),.plain h hk (fY h he hX)⟩
 | pick x y z=>
  simp only[ho,au,ae,aF,aq]at hc
  obtain⟨X,hX,Y,hY,Z,hZ,rfl⟩:=hc
  obtain⟨b,hb,hp⟩:=Ym h (fY h he hX) (fY h he hY) (fY h he hZ) hk
  exact⟨_,w,.inl (by simp[execOp,ho,hb];rfl),hp⟩
 | box e x=>
  simp only[ho,au,ae,aF,aq]at hc
  obtain⟨X,hX,rfl⟩:=hc
  obtain⟨r,w',hr,hp⟩:=XM (P:=P) h fr e (fY h he hX) hk
  exact⟨r,w',by simp only[execOp,ho];exact gT hr,hp⟩
 | alloc e=>
  simp only[ho,au,ae,aF,aq]at hc
  obtain⟨z,hz,rfl⟩:=hc
  obtain⟨r,w',hr,hp⟩:=XH (P:=P) h fr hz hk
  exact⟨r,w',by simp only[execOp,ho];exact gT hr,hp⟩
 | build t ps=>
  simp only[ho,au,ae]at hc
  obtain⟨z,hz,l,hl,hc⟩:=hc
  split at hc
  ·rename_i fs hu
   split at hc
   ·rename_i hf
    simp only[ae,aF,aq]at hc
    obtain⟨qs,hq,rfl⟩:=hc
    obtain⟨r,hr,hp⟩:=XP h he hz hl hu hf hq hk
    exact⟨r,w,by simp only[execOp,ho];exact gT hr,hp⟩
   ·cases hc
  ·rename_i n e hu
   simp only[ae,aF,aq]at hc
   obtain⟨sz,hs,rfl⟩:=hc
   obtain⟨r,hr,hp⟩:=XQ h he hz hl hu hs hk
   exact⟨r,w,by simp only[execOp,ho];exact gT hr,hp⟩
  ·cases hc
 | buildSlice t n ps=>
  simp only[ho,au,ae]at hc
  obtain⟨td,hu,hc⟩:=hc
  split at hc
  ·rename_i e
   simp only[ae]at hc
   obtain⟨z,hz,sz,hs,l,hl,hc⟩:=hc
   split at hc
   ·rename_i gG
    cases hc
    obtain⟨r,w',hr,hp⟩:=XR (P:=P) h fr he hu hz hs hl gG.1 gG.2.1 gG.2.2 hk
    exact⟨r,w',by simp only[execOp,ho];exact gT hr,hp⟩
   ·cases hc
  ·cases hc
 | load t x=>
  simp only[ho,au,ae]at hc
  obtain⟨X,hX,n,hn,b,hb,hc⟩:=hc
  cases b
  ·cases hc
   obtain⟨v,hv,hp⟩:=Yd h hb (fY h he hX) hk
   exact⟨v,w,by simp only[execOp,ho];exact gT hv,hp⟩
  ·cases hc
   obtain⟨v,hv,hp⟩:=Ye h hb hn (fY h he hX) hk
   exact⟨v,w,by simp only[execOp,ho];exact gT hv,hp⟩
 | store t x y=>
  simp only[ho,au,ae]at hc
  obtain⟨X,hX,Y,hY,n,hn,b,hb,hc⟩:=hc
  cases b
  ·simp only[bw,if_false]at hc
   split at hc
   ·rename_i e
    subst e
    cases hc
    obtain⟨w',hv,hp⟩:=Yu h hn (fY h he hX) (fY h he hY) hk
    exact⟨_,w',by simp only[execOp,ho];exact EP hv,hp⟩
   ·cases hc
  ·cases hc
   obtain⟨w',hv,hp⟩:=Yw h hn (fY h he hX) (fY h he hY) hk
   exact⟨_,w',by simp only[execOp,ho];exact EP hv,hp⟩
 | nilCheck x=>
  simp only[ho,au,ae,aF,aq]at hc
  obtain⟨X,hX,rfl⟩:=hc
  exact Yl h ho (fY h he hX) hk
 | binOp op t x y yt=>
  simp only[ho,au,ae]at hc
  obtain⟨X,hX,Y,hY,hc⟩:=hc
  have r1:=fY h he hX
  have r2:=fY h he hY
  split at hc
  ·split at hc
   ·rename_i hb
    cases hc
    obtain⟨v,hv,hp⟩:=MJ (P:=P) h (by unfold Cf at hb;split at hb<;>first|assumption|cases hb) false r1 r2 hk x y
    exact⟨v,w,by simp only[execOp,ho];exact gT hv,hp⟩
   ·split at hc
    ·cases hc
     obtain⟨v,hv,hp⟩:=Hy (P:=P) h r1 r2 hk t x y
     exact⟨v,w,by simp only[execOp,ho];exact gT hv,hp⟩
    ·simp only[ae,aF,aq]at hc
     obtain⟨ls,yd,rfl⟩:=hc
     obtain⟨v,hv,hp⟩:=MK (P:=P) h yd false r1 r2 hk x y
     exact⟨v,w,by simp only[execOp,ho];exact gT hv,hp⟩
  ·split at hc
   ·rename_i hb
    cases hc
    obtain⟨v,hv,hp⟩:=MJ (P:=P) h (by unfold Cf at hb;split at hb<;>first|assumption|cases hb) true r1 r2 hk x y
    exact⟨v,w,by simp only[execOp,ho];exact gT hv,hp⟩
   ·split at hc
    ·cases hc
     obtain⟨v,hv,hp⟩:=Hy (P:=P) h r1 r2 hk t x y
     exact⟨v,w,by simp only[execOp,ho];exact gT hv,hp⟩
    ·simp only[ae,aF,aq]at hc
     obtain⟨ls,yd,rfl⟩:=hc
     obtain⟨v,hv,hp⟩:=MK (P:=P) h yd true r1 r2 hk x y
     exact⟨v,w,by simp only[execOp,ho];exact gT hv,hp⟩
  ·cases hc
   obtain⟨v,hv,hp⟩:=Hy (P:=P) h r1 r2 hk t x y
   exact⟨v,w,by simp only[execOp,ho];exact gT hv,hp⟩
 | unOp op t x=>
  simp only[ho,au,ae,aF,aq]at hc
  obtain⟨X,hX,rfl⟩:=hc
  obtain⟨v,hv,hp⟩:=Yx (P:=P) h (fY h he hX) hk
  exact⟨v,w,by simp only[execOp,ho];exact gT hv,hp⟩
 | convert s d x=>
  simp only[ho,au,ae]at hc
  obtain⟨X,hX,sd,hs,hc⟩:=hc
  split at hc
  ·rename_i k hd
   cases hc
   obtain⟨v,hv,hp⟩:=XV (P:=P) h hs hd (fY h he hX) hk
   exact⟨v,w,by simp only[execOp,ho];exact gT hv,hp⟩
  ·rename_i hd
   simp only[ae]at hc
   obtain⟨sd2,kD,hc⟩:=hc
   split at hc
   ·rename_i e
    simp only[ae]at hc
    obtain⟨ed,Gc,hc⟩:=hc
    split at hc
    ·cases hc
     obtain⟨v,hv,hp⟩:=XL (P:=P) h kD Gc hd (fY h he hX) hk
     exact⟨v,w,by simp only[execOp,ho];exact gT hv,hp⟩
    ·cases hc
   ·cases hc
  ·cases hc
 | makeFunc f first cap=>
  simp only[ho,au,ae,aF,aq]at hc
  obtain⟨X,hX,Y,hY,rfl⟩:=hc
  exact⟨_,w,.inl (by simp[execOp,ho,Instr.makeFunc]),Yh h he hX hY hk⟩
 | makeMap t r=>
  cases r with
  | some r=>simp[ho]at hc
  | none=>
   simp only[ho,au,ae]at hc
   obtain⟨td,hu,hc⟩:=hc
   split at hc
   ·simp only[ae,aF,aq]at hc
    obtain⟨kk,jY,rfl⟩:=hc
    obtain⟨v,w',hv,hp⟩:=Yi (P:=P) h fr t kk hk
    exact⟨v,w',by simp only[execOp,ho];exact gT hv,hp⟩
   ·cases hc
 | lookup t x i ok=>
  simp only[ho,au,ae]at hc
  obtain⟨td,hu,hc⟩:=hc
  split at hc
  ·simp only[ae,aF,aq]at hc
   obtain⟨z,hz,kk,jY,X,hX,Y,hY,rfl⟩:=hc
   obtain⟨v,hv,hp⟩:=Yf (P:=P) h hu jY hz ok (fY h he hX) (fY h he hY) hk
   exact⟨v,w,by simp only[execOp,ho];exact gT hv,hp⟩
  ·cases hc
 | mapUpdate t m k x=>
  simp only[ho,au,ae]at hc
  obtain⟨td,hu,hc⟩:=hc
  split at hc
  ·simp only[ae,aF,aq]at hc
   obtain⟨kk,jY,X,hX,Y,hY,Z,hZ,rfl⟩:=hc
   obtain⟨w',hv,hp⟩:=ML (P:=P) h hu jY (fY h he hX) (fY h he hY) (fY h he hZ) hk
   exact⟨_,w',by simp only[execOp,ho];exact EP hv,hp⟩
  ·cases hc
 | insert t m k x=>
  simp only[ho,au,ae]at hc
  obtain⟨td,hu,hc⟩:=hc
  split at hc
  ·simp only[ae,aF,aq]at hc
   obtain⟨kk,jY,X,hX,Y,hY,Z,hZ,rfl⟩:=hc
   obtain⟨w',hv,hp⟩:=ML (P:=P) h hu jY (fY h he hX) (fY h he hY) (fY h he hZ) hk
   exact⟨_,w',by simp only[execOp,ho];exact EP hv,hp⟩
  ·cases hc
 | makeSlice t l m=>
  simp only[ho,au,ae]at hc
  obtain⟨td,hu,hc⟩:=hc
  split at hc
  ·simp only[ae]at hc
   obtain⟨z,hz,i,hi,hc⟩:=hc
   split at hc
   ·rename_i gG
    simp only[ae,aF,aq]at hc
    obtain⟨X,hX,Y,hY,rfl⟩:=hc
    obtain⟨v,w',hv,hp⟩:=Yj (P:=P) h fr hu hi hz gG.1 gG.2 (fY h he hX) (fY h he hY) hk
    exact⟨_,w',by simp only[execOp,ho];exact gT hv,hp⟩
   ·cases hc
  ·cases hc
 | slice t x lo hi mx=>
  cases mx with
  | some r=>simp[ho]at hc
  | none=>
   simp only[ho,au,ae]at hc
   obtain⟨X,hX,L,hL,M,hM,hc⟩:=hc
   have r1:=fY h he hX
   split at hc
   ·rename_i e hu
    simp only[ae,aF,aq]at hc
    obtain⟨n,hn,rfl⟩:=hc
    obtain⟨v,hv,hp⟩:=Yp (P:=P) h he hu hn hL hM r1 hk
    exact⟨v,w,by simp only[execOp,ho];exact gT hv,hp⟩
   ·rename_i hu
    cases hc
    have hs:∃ s,ev env X = .val (.string s):=by
     simp only[xc]at hk
     unfold wz at hk
     split at hk
     ·rename_i s e;exact⟨s,e⟩
     ·exact hk.elim
    obtain⟨s,hs⟩:=hs
    simp only[xc]at hk
    rw[hs]at hk r1
    have LM:a.eval x = .string s:=by
     generalize a.eval x=u at r1
     cases r1;rfl
    obtain⟨v,hv,hp⟩:=Ys (P:=P) h he hu hL hM hk
    exact⟨v,w,by simp only[execOp,ho,LM];exact gT hv,hp⟩
   ·cases hc
 | fieldAddr t x f=>
  simp only[ho,au,ae]at hc
  obtain⟨X,hX,td,hu,hc⟩:=hc
  split at hc
  ·simp only[ae]at hc
   obtain⟨fd,hf,n,hn,hc⟩:=hc
   split at hc
   ·rename_i iu
    cases hc
    obtain⟨v,hv,hp⟩:=X3 (P:=P) h hu hf hn iu (fY h he hX) hk
    exact⟨v,w,by simp only[execOp,ho];exact gT hv,hp⟩
   ·cases hc
  ·cases hc
 | field t x f=>
  simp only[ho,au,ae]at hc
  obtain⟨X,hX,td,hu,hc⟩:=hc
  split at hc
  ·simp only[ae,aF,aq]at hc
   obtain⟨fd,hf,n,hn,b,hb,rfl⟩:=hc
   obtain⟨v,hv,hp⟩:=XZ (P:=P) h hu hf hb hn (fY h he hX) hk
   exact⟨v,w,by simp only[execOp,ho];exact gT hv,hp⟩
  ·cases hc
 | indexAddr t x i=>
  simp only[ho,au,ae]at hc
  obtain⟨X,hX,Y,hY,hc⟩:=hc
  split at hc
  ·rename_i e hu
   simp only[ae]at hc
   obtain⟨n,hn,hc⟩:=hc
   split at hc
   ·rename_i iu
    cases hc
    obtain⟨v,hv,hp⟩:=X' (P:=P) h hu hn iu (fY h he hX) (fY h he hY) hk
    exact⟨v,w,by simp only[execOp,ho];exact gT hv,hp⟩
   ·cases hc
  ·rename_i m e hu
   simp only[ae,aF,aq]at hc
   obtain⟨n,hn,rfl⟩:=hc
   obtain⟨v,hv,hp⟩:=Ya (P:=P) h hu hn (fY h he hX) (fY h he hY) hk
   exact⟨v,w,by simp only[execOp,ho];exact gT hv,hp⟩
  ·cases hc
 | index t x i=>
  simp only[ho,au,ae]at hc
  obtain⟨X,hX,Y,hY,hc⟩:=hc
  split at hc
  ·rename_i m e hu
   simp only[ae,aF,aq]at hc
   obtain⟨n,hn,b,hb,rfl⟩:=hc
   obtain⟨v,hv,hp⟩:=X9 (P:=P) h hu hn hb (fY h he hX) (fY h he hY) hk
   exact⟨v,w,by simp only[execOp,ho];exact gT hv,hp⟩
  ·rename_i hu
   cases hc
   obtain⟨v,hv,hp⟩:=Yb (P:=P) h hu (fY h he hX) (fY h he hY) hk
   exact⟨v,w,by simp only[execOp,ho];exact gT hv,hp⟩
  ·cases hc
 | extract x i=>
  simp only[ho,au,ae,aF,aq]at hc
  obtain⟨X,hX,rfl⟩:=hc
  obtain⟨v,hv,hp⟩:=XY (P:=P) h (fY h he hX) hk
  exact⟨v,w,by simp only[execOp,ho];exact gT hv,hp⟩
 | call cl=>
  simp only[ho,au,ae]at hc
  obtain⟨args,nW,hc⟩:=hc
  have gw:=tf h he cl.args.toList nW
  split at hc
  ·split at hc
   ·cases hc;split at hk<;>exact(show False from hk).elim
   ·cases hc
  ·simp only[ae,aF,aq]at hc
   obtain⟨X,hX,rfl⟩:=hc
   exact(show False from hk).elim
  ·rename_i gQ
   split at hc
   ·rename_i t u x y kj
    have nX:cl.argTypes = #[t,u]:=by rw[← bx (xs:=cl.argTypes),kj]
    obtain⟨vs,iA,gw⟩:=HN gw
    simp only[List.map_cons,List.map_nil]at gw
    cases gw with|cons r1 gw=>cases gw with|cons r2 gw=>cases gw with|nil=>
    simp only[ae]at hc
    obtain⟨td,hu,hc⟩:=hc
    split at hc
    ·simp only[ae]at hc
     obtain⟨i,hi,z,hz,ud,LI,hc⟩:=hc
     split at hc
     ·split at hc
      ·rename_i gG
       cases hc
       obtain⟨v,w',hv,hp⟩:=XI (P:=P) (ty:=o.type) h fr hu ⟨_,LI⟩ hi hz gG.1 gG.2 r1 r2 hk
       exact⟨v,w',by rw[qy ho gQ,iA,nX];exact gT hv,hp⟩
      ·cases hc
     ·cases hc
    ·cases hc
   ·cases hc
  ·rename_i gQ
   split at hc
   ·rename_i t u x y kj
    have nX:cl.argTypes = #[t,u]:=by rw[← bx (xs:=cl.argTypes),kj]
    obtain⟨vs,iA,gw⟩:=HN gw
    simp only[List.map_cons,List.map_nil]at gw
    cases gw with|cons r1 gw=>cases gw with|cons r2 gw=>cases gw with|nil=>
    simp only[ae]at hc
    obtain⟨td,hu,hc⟩:=hc
    split at hc
    ·simp only[ae]at hc
     obtain⟨ud,LI,hc⟩:=hc
     split at hc
     ·simp only[ae]at hc
      obtain⟨n,hn,hc⟩:=hc
      split at hc
      ·rename_i iu
       cases hc
       obtain⟨v,w',hv,hp⟩:=XW (P:=P) (u:=u) (ty:=o.type) h hu hn iu r1 r2 hk
       exact⟨v,w',by rw[qy ho gQ,iA,nX];exact gT hv,hp⟩
      ·cases hc
     ·cases hc
    ·cases hc
   ·cases hc
  ·rename_i gQ
   split at hc
   ·rename_i t x kj
    have nX:cl.argTypes = #[t]:=by rw[← bx (xs:=cl.argTypes),kj]
    obtain⟨vs,iA,gw⟩:=HN gw
    simp only[List.map_cons,List.map_nil]at gw
    cases gw with|cons r1 gw=>cases gw with|nil=>
    split at hc
    ·rename_i e hu
     cases hc
     obtain⟨v,hv,hp⟩:=Hz (P:=P) (ty:=o.type) (k:=.slice) h hu ⟨e,rfl⟩ r1 hk
     exact⟨v,w,by rw[qy ho gQ,iA,nX];exact gT hv,hp⟩
    ·rename_i hu
     cases hc
     obtain⟨v,hv,hp⟩:=Hz (P:=P) (ty:=o.type) (k:=.string) h hu rfl r1 hk
     exact⟨v,w,by rw[qy ho gQ,iA,nX];exact gT hv,hp⟩
    ·rename_i k e hu
     cases hc
     obtain⟨v,hv,hp⟩:=Hz (P:=P) (ty:=o.type) (k:=.map) h hu ⟨k,e,rfl⟩ r1 hk
     exact⟨v,w,by rw[qy ho gQ,iA,nX];exact gT hv,hp⟩
    ·cases hc
   ·cases hc
  ·rename_i gQ
   cases hc
   obtain⟨v,hv,hp⟩:=MN (P:=P) h he nW true cl.argTypes o.type hk
   exact⟨v,w,by rw[qy ho gQ];exact gT (by simpa using hv),hp⟩
  ·rename_i gQ
   cases hc
   obtain⟨v,hv,hp⟩:=MN (P:=P) h he nW false cl.argTypes o.type hk
   exact⟨v,w,by rw[qy ho gQ];exact gT (by simpa using hv),hp⟩
  ·cases hc
 | _=>simp[ho]at hc
