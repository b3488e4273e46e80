/- Part 2 of TableHurry. -/
import Derived.Test.YtnaefnajkaohgaaGreatDoorG01
set_option linter.all false
namespace Go.AL
open Go
section
variable{P:Program}{G:GT}{c:Ctx}{H:et}{w:World}{K:gQ}{env:fg}{a:Act}
theorem YB(h:eP G c H w){t e:TypeId}{sz n:Nat}(hu:P.underlying t=some (.array n e))(hs:iG P e=some sz){x i:D}{u v:Value}(h1:ew c w u x)(h2:ew c w v i)(hk:yI sz n x i H K) :
  ∃ r,(Instr.indexAt t u v).run P w = .ok r w∧gF G c H w K r w:=by
 have gi:∀ (ad:Addr) (k:IntKind) (m:Int),0≤m∧m<n→(Instr.indexAt t (.pointer (some ad)) (.int k m)).run P w = .ok (.pointer (some (ad.add (m.toNat*sz)))) w:=fun ad k m hm=>by
  simp only[Instr.indexAt,Sem.run_bind,asIntOf,Sem.run_pure,Result.andThen_ok,run_underlying hu,nQ hs,Sem.run_ite,Instr.sureAddr]
  rw[if_pos hm]
 unfold yI at hk
 split at hk
 ·rename_i v0 g0 o k m
  obtain⟨hm,hk⟩:=hk
  cases h2
  cases h1 with
  | ptr _ _ _ L eD hv=>
   refine⟨_,gi _ k m hm,.plain h hk ?_⟩
   rw[Addr.add_lit,bf]
   exact .ptr _ _ _ L eD hv
 ·rename_i cs k m
  obtain⟨hm,hk⟩:=hk
  cases h2
  obtain⟨b,p,rfl,hF,hc⟩:=tC h1
  refine⟨_,gi _ k m hm,.plain h hk ?_⟩
  rw[Addr.add_lit]
  exact FU hF (hc.drop _)
 ·exact hk.elim
theorem Yy(h:eP G c H w){t e:TypeId}{sz n:Nat}{b:Bool}(hu:P.underlying t=some (.array n e))(hs:iG P e=some sz)(ha:lZ P e=some b){x i:D}{u v:Value}(h1:ew c w u x)(h2:ew c w v i)(hk:yK sz n b x i H K) :
  ∃ r,(Instr.index t u v).run P w = .ok r w∧gF G c H w K r w:=by
 unfold yK at hk
 split at hk
 ·rename_i cs k m
  obtain⟨hm,hk⟩:=hk
  cases h2
  cases h1 with
  | agg vs _ hl h1 h2=>
   obtain⟨r,hr,hp⟩:=Na (off:=m.toNat*sz) h ha hs ⟨hl,h1,h2⟩ hk
   refine⟨r,?_,hp⟩
   simp only[Instr.index,Sem.run_bind,asIntOf,Sem.run_pure,Result.andThen_ok,run_underlying hu,Sem.run_ite]
   rw[if_pos hm]
   simp[nQ hs,hr]
 ·exact hk.elim
theorem YC(h:eP G c H w){t:TypeId}(hu:P.underlying t=some .string){x i:D}{u v:Value}(h1:ew c w u x)(h2:ew c w v i)(hk:yL x i H K) :
  ∃ r,(Instr.index t u v).run P w = .ok r w∧gF G c H w K r w:=by
 unfold yL at hk
 split at hk
 ·rename_i s k m
  obtain⟨hm,hk⟩:=hk
  cases h1
  cases h2
  have fe:m.toNat<s.size:=by omega
  have hl:s.data.toList.getD m.toNat 0=s[m.toNat]:=by
   have h':m.toNat<s.data.size:=fe
   show(s.data.toList[m.toNat]?).getD 0=s.data[m.toNat]
   rw[bq,bT h']
   rfl
  rw[hl]at hk
  refine⟨_,?_,.val h hk⟩
  simp only[Instr.index,Sem.run_bind,asIntOf,Sem.run_pure,Result.andThen_ok,run_underlying hu]
  rw[if_pos hm.1]
  simp[fe]
 ·exact hk.elim
theorem Yu(h:eP G c H w){x:D}{i:Nat}{u:Value}(h1:ew c w u x)(hk:xU x i H K):∃ r,(Instr.extract u i).run P w = .ok r w∧gF G c H w K r w:=by
 unfold xU at hk
 split at hk
 ·split at hk
  ·rename_i ds d hd
   cases h1 with
   | tup vs _ hl h1=>
    have hi:i<vs.length:=by rw[hl];exact(af.1 hd).1
    refine⟨vs[i],?_,.plain h hk (h1 i _ d (by simp[hi]) hd)⟩
    simp[Instr.extract,hi]
  ·exact hk.elim
 ·exact hk.elim
theorem YG(h:eP G c H w)(he:iS c w env a){f:Fn}{first cap:Array Operand}{df dc:List X}(h1:qY G first.toList=some df)(h2:qY G cap.toList=some dc)
  (hk:K (.fn f (df.map (ev env)) (dc.map (ev env))) H):gF G c H w K (.func f (first.map a.eval) (cap.map a.eval)) w:=by
 have r1:=tA h he first.toList h1
 have r2:=tA h he cap.toList h2
 refine .plain h hk ?_
 have:=ew.fn (c:=c) (w:=w) f (first.toList.map a.eval) (cap.toList.map a.eval) (df.map (ev env)) (dc.map (ev env)) r1.length r2.length r1.get r2.get
 have e:∀ l:Array Operand,(l.toList.map a.eval).toArray=l.map a.eval:=fun l=>by cases l;simp
 rwa [e,e]at this
theorem YH(h:eP G c H w){al:Al}(fu:j' H al)(t:TypeId)(kk:KK)(hk:K (.fC al.1) (al.2 (.map kk []))):∃ r w',(Instr.makeMap t none).run P w = .ok r w'∧gF G c H w K r w':=by
 have oV:=ig.alloc w (.map #[] 0)
 have hL:(⟨w.heap.size,0,0,false⟩:Loc).gP=false→w.heap.size≤(⟨w.heap.size,0,0,false⟩:Loc).b∧(⟨w.heap.size,0,0,false⟩:Loc).b<(w.alloc (.map #[] 0)).heap.size:=fun _=>⟨Nat.le_refl _,by simp⟩
 have ht:=(fu (.map kk [])).pc
 have hs:=ET h ht oV ⟨w.heap.size,0,0,false⟩ hL
 refine⟨.map (some w.heap.size),w.alloc (.map #[] 0),by simp[Instr.makeMap],_,_,_,hk,Iz h ht oV _ hL rfl ?_,?_,hs⟩
 ·simp only[fr]
  exact⟨trivial,by simp,#[],0,heap_alloc_new _ _,⟨rfl,by simp,by simp⟩⟩
 ·exact .fC (c:=c.set al.1 0 ⟨w.heap.size,0,0,false⟩) al.1 ⟨w.heap.size,0,0,false⟩ (Ctx.oK _ _ _ _) rfl
theorem YI(h:eP G c H w){al:Al}(fu:j' H al){t e:TypeId}{i:TypeInfo}{z:List D}(hu:P.underlying t=some (.slice e))(hi:P.info? e=some i)(hz:mC P e=some z)(pG:z.length=i.size)(iy:0<i.size)
  {l m:D} {u v:Value} (h1:ew c w u l) (h2:ew c w v m) (hk:y7 e i.size i.bytes z l m al K):∃ r w',(Instr.makeSlice t u v).run P w = .ok r w'∧gF G c H w K r w':=by
 unfold y7 at hk
 split at hk
 ·rename_i k n k' q
  obtain⟨⟨RU,hnq,hq,hb⟩,hk⟩:=hk
  cases h1
  cases h2
  obtain⟨zv,rC,_,oo⟩:=tf hz w
  have qw:zv.cells.size=i.size:=by have:=(oo c w).len;simp at this;omega
  have wn:IntKind.i64.wrap n=n:=wrap_i64 (by unfold kL;omega)
  have wq:IntKind.i64.wrap q=q:=wrap_i64 (by unfold kL;omega)
  have mj:Cells c w ((Array.range (q.toNat*i.size)).map (fun j=>zv.cells[j % zv.cells.size]!)).toList (List.replicate q.toNat z).flatten:=by
   rw[← qw,Eg zv.cells q.toNat (by omega)]
   exact C6 _ _ oo _
  obtain⟨L,e1,e2,e3,e4,e5,e6⟩:=y8 h w (ig.refl w) e _ _ ((Array.range (q.toNat*i.size)).map (fun j=>zv.cells[j % zv.cells.size]!)).size ((Array.range (q.toNat*i.size)).map (fun j=>zv.cells[j % zv.cells.size]!)) (fu _).pc mj (by rw[← cv,db]) (Nat.le_refl _)
  refine⟨.slice (some ⟨w.heap.size,0,none⟩) n.toNat q.toNat,w.alloc (.cells ((Array.range (q.toNat*i.size)).map (fun j=>zv.cells[j % zv.cells.size]!)) e),?_,?_⟩
  ·have c1:¬ ((i.bytes:Int)*q>2 ^ 48):=by omega
   have c2:¬ q<0:=by omega
   have c3:¬ n<0:=by omega
   have c4:¬ n>q:=by omega
   simp only[Instr.makeSlice,Sem.run_bind,run_underlying hu,Result.andThen_ok,asInt,asIntOf,Sem.run_pure,run_typeInfo hi,wn,wq,Sem.run_ite]
   rw[if_neg (by simp[c1,c2,c3,c4];omega)]
   by_cases h0:q.toNat*i.size=0
   ·have Sc:q.toNat=0:=by rcases Nat.mul_eq_zero.1 h0 with h|h<;>omega
    have er:Array.range 0=(#[]:Array Nat):=rfl
    simp[sizeOf,run_typeInfo hi,Sc,newRow,er]
   ·simp[sizeOf,run_typeInfo hi,h0,rC,newRow]
  ·have hp:=Ec (c:=c) (w:=w.alloc (.cells ((Array.range (q.toNat*i.size)).map (fun j=>zv.cells[j % zv.cells.size]!)) e)) e1 e3 al.1 0 i.size n.toNat q.toNat (by rw[e4];simp) (by omega) (by unfold maxLen;omega)
   rw[e2]at hp
   exact⟨_,_,_,hk,e5,hp,e6⟩
 ·exact hk.elim
end
end Go.AL
namespace Go.AL
open Go
section
variable{P:Program}{G:GT}{c:Ctx}{H:et}{w:World}{K:gQ}{env:fg}{a:Act}
theorem C4{α:Type}(sz:Nat)(iy:0<sz):∀ (ls:List (List α)),(∀ l∈ls,l.length=sz)→∀ j:Nat,ls.flatten[j]? = (ls[j / sz]?).bind (·[j % sz]?)
 | [],_,j=>by simp
 | l::ls,h,j=>by
  have hl:l.length=sz:=h l (by simp)
  rw[aL]
  by_cases hj:j<sz
  ·rw[ag (by omega),Nat.div_eq_of_lt hj,dF hj]
   simp
  ·rw[aj (by omega),hl,C4 sz iy ls (fun l hl=>h l (by simp[hl])),Nat.div_eq_sub_div (a:=j) (b:=sz) iy (by omega),Nat.mod_eq_sub_mod (a:=j) (b:=sz) (by omega)]
   simp
theorem C5{α:Type}(sz:Nat):∀ (ls:List (List α)),(∀ l∈ls,l.length=sz)→ls.flatten.length=ls.length*sz
 | [],_=>by simp
 | l::ls,h=>by
  rw[aL,az,C5 sz ls (fun l hl=>h l (by simp[hl])),h l (by simp),aJ,aV]
  omega
theorem Iv(h:eP G c H w){sz:Nat}(iy:0<sz){d:D}{u:Value}(hr:ew c w u d){ys:List D}{n:Nat}(hy:jy sz H d=some (ys,n)) :
  ∃ yb yc vs,u = .slice yb n yc∧Cells c w vs ys∧ys.length=n*sz∧n≤yc∧(yb=none→n=0)∧(∀ ad,yb=some ad→∀ (j:Nat) (v:Value),vs[j]? = some v→w.cell? (ad.add j)=some v):=by
 unfold jy at hy
 split at hy
 ·rename_i fm es
  split at hy
  ·rename_i e
   subst e
   cases hy
   cases hr with
   | sl ad len cap _ _ g hlen ik iJ fO lS hc hr=>
    have yj:=C5 fm es fO
    have gK:∀ (j:Nat) (d:D),es.flatten[j]? = some d→∃ e,es[j / fm]? = some e∧e[j % fm]? = some d:=fun j d hd=>by
     rw[C4 fm iy es fO]at hd
     cases he:es[j / fm]? with
     | none=>simp[he]at hd
     | some e=>exact⟨e,rfl,by simpa[he]using hd⟩
    refine⟨ad,cap,(List.range es.flatten.length).map fun j=>g (j / fm) (j % fm),by rw[hlen],⟨by simp,fun v hv=>?_,fun i v d hv hd=>?_⟩,yj,by omega,fun e=>by have:=lS e;omega,fun b hb j v hv=>?_⟩
    ·simp only[aw,bG]at hv
     obtain⟨j,hj,rfl⟩:=hv
     obtain⟨e,ye,ng⟩:=gK j _ (by rw[List.getElem?_eq_getElem hj])
     obtain⟨_,_,_,_,_,h1⟩:=hc _ e _ _ ye ng
     exact h1
    ·obtain⟨e,ye,ng⟩:=gK i d hd
     simp only[ar,bO (af.1 hd).1,a8,aq]at hv
     subst hv
     exact hr _ e _ d ye ng
    ·have hj:j<es.flatten.length:=by have:=(af.1 hv).1;simpa using this
     simp only[ar,bO hj,a8,aq]at hv
     subst hv
     obtain⟨e,ye,ng⟩:=gK j _ (by rw[List.getElem?_eq_getElem hj])
     obtain⟨b',o,vN,_,h2,_⟩:=hc _ e _ _ ye ng
     rw[hb]at vN
     cases vN
     rw[Addr.add_lit]
     have h3:=h2
     rw[Nat.div_add_mod' j fm]at h3
     exact h3
  ·cases hy
 ·cases hy
  cases hr with
  | U=>exact⟨none,0,[],rfl,Cells.nil,by simp,Nat.le_refl _,fun _=>rfl,fun _ _ j v hv=>by simp at hv⟩
 ·rename_i v0 g0 fm off len
  split at hy
  ·rename_i t cs fy
   split at hy
   ·rename_i gJ
    obtain⟨rfl,jS⟩:=gJ
    cases hy
    have hv:=pa fy
    dsimp only at hv
    cases hr with
    | eu _ _ _ _ _ cap L eD fM ik iJ jV=>
     obtain⟨arr,h1,h2,h3,h4⟩:=tb h hv eD fM
     refine⟨_,cap,_,rfl,((h4.drop (off*fm)).take (n*fm)),?_,ik,(fun e=>nomatch e),fun ad hb j v hv=>?_⟩
     ·simp only[aP,bk]
      rw[aV]at jS
      omega
     ·cases hb
      rw[Addr.add_lit]
      rw[ay]at hv
      split at hv
      ·rw[aC,ay]at hv
       split at hv
       ·rw[aC]at hv
        simp[World.cell?,h1]
        rw[bf]
        simpa using hv
       ·cases hv
      ·cases hv
    | kl _ _ _ _ L eD ad=>
     refine⟨ad,0,[],rfl,?_,by simp,Nat.le_refl _,fun _=>rfl,fun _ _ j v hv=>by simp at hv⟩
     simp only[b9,du]
     exact Cells.nil
   ·cases hy
  ·cases hy
 ·cases hy
theorem JM:∀ {vs:List Value} {ys:List D} {ns:List Int},vs.length=ys.length→(∀ (i:Nat) (v:Value) (d:D),vs[i]? = some v→ys[i]? = some d→ew c w v d)→bytesOf ys=some ns→vs=ns.map (Value.int .u8)
 | [],[],ns,_,_,h=>by cases h;rfl
 | v::vs,y::ys,ns,hl,hr,h=>by
  unfold bytesOf at h
  split at h
  ·rename_i heq;cases heq
  ·rename_i n r heq
   cases heq
   split at h
   ·rename_i l kg
    cases h
    have h0:=hr 0 v _ rfl rfl
    cases h0
    have e:=JM (vs:=vs) (by simpa using hl) (fun i v d hv hd=>hr (i+1) v d (by simpa using hv) (by simpa using hd)) kg
    rw[e]
    rfl
   ·cases h
  ·cases h
theorem Yf(h:eP G c H w){s d e:TypeId}(hs:P.underlying s=some (.slice e))(he:P.underlying e=some (.int .u8))(hd:P.underlying d=some .string){x:D}{u:Value}(h1:ew c w u x)(hk:xw x H K) :
  ∃ r,(convert s d u).run P w = .ok r w∧gF G c H w K r w:=by
 unfold xw at hk
 split at hk
 ·rename_i ys n mN
  obtain⟨yb,yc,vs,mn,iE,iQ,Me,yF,yE⟩:=Iv h (by omega) h1 mN
  subst mn
  split at hk
  ·rename_i ns Du
   have hv:=JM iE.len iE.rep Du
   refine⟨_,?_,.val h hk⟩
   rw[run_convert_bytes_string w s d e yb n yc hs he hd]
   cases yb with
   | none=>
    have hn:=yF rfl
    subst hn
    have:ns = []:=by
     have:vs = []:=aU (by rw[iE.len,iQ])
     rw[this]at hv
     cases ns with
     | nil=>rfl
     | cons=>cases hv
    subst this
    simp[Conv.bytesToString]
   | some ad=>
    refine run_bytesToString w ad n yc ns ?_
    have hl:vs.length=n:=by rw[iE.len,iQ];simp
    have:=run_loadCells_list (P:=P) w ad vs (yE ad rfl)
    rw[hl]at this
    rw[this,hv]
  ·exact hk.elim
 ·exact hk.elim
theorem OM(h:eP G c H w)(he:iS c w env a){x:Option Operand}{X:Option X}(hx:qX G x=some X){d:Int}{n:Int}(hb:gI env X d=some n) :
  (x=none∧n=d)∨∃ k o,x=some o∧a.eval o = .int k n:=by
 cases x with
 | none=>cases hx;simp[gI]at hb;exact .inl ⟨rfl,hb.symm⟩
 | some o=>
  simp only[qX,ai]at hx
  obtain⟨X0,hX,rfl⟩:=hx
  have:=gb h he hX
  simp only[gI]at hb
  split at hb
  ·rename_i k m ml
   cases hb
   rw[ml]at this
   generalize hv:a.eval o=v at this
   cases this
   exact .inr ⟨k,o,rfl,hv⟩
  ·cases hb
theorem NR(isSlice:Bool)(len cap:Nat)(lo hi:Option Value)(l h:Int)(kz:(lo=none∧l=0)∨∃ k,lo=some (.int k l))(Rz:(hi=none∧h=len)∨∃ k,hi=some (.int k h))
  (h0:0≤l) (h1:l≤h) (h2:h≤cap):(Instr.sliceBounds isSlice len cap lo hi none).run P w = .ok (l.toNat,h.toNat,cap) w:=by
 have eh:(h.toNat:Int)=h:=b7 (by omega)
 rcases kz with⟨rfl,rfl⟩|⟨k,rfl⟩<;>rcases Rz with⟨rfl,rfl⟩|⟨k',rfl⟩
 ·simp[Instr.sliceBounds]
 ·simp[Instr.sliceBounds,run_sliceBound w k' h cap _ (by omega) h2]
 ·simp[Instr.sliceBounds,run_sliceBound w k l len _ h0 h1]
 ·simp[Instr.sliceBounds,run_sliceBound w k' h cap _ (by omega) h2,run_sliceBound w k l h.toNat _ h0 (by omega)]
theorem Cs(h:eP G c H w)(he:iS c w env a){x:Option Operand}{X:Option X}(hx:qX G x=some X){d:Int}{n:Int}(hb:gI env X d=some n) :
  (x.map a.eval=none∧n=d)∨∃ k,x.map a.eval=some (.int k n):=by
 rcases OM h he hx hb with⟨rfl,rfl⟩|⟨k,o,rfl,hv⟩
 ·exact .inl ⟨rfl,rfl⟩
 ·exact .inr ⟨k,by simp[hv]⟩
theorem YN(h:eP G c H w)(he:iS c w env a){t e:TypeId}{sz:Nat}(hu:P.underlying t=some (.slice e))(hs:iG P e=some sz){lo hi:Option Operand}{L M:Option X}(hl:qX G lo=some L)(hm:qX G hi=some M)
  {x:D} {u:Value} (h1:ew c w u x) (hk:zK env sz x L M H K):∃ r,(Instr.sliceAt t u (lo.map a.eval) (hi.map a.eval) none).run P w = .ok r w∧gF G c H w K r w:=by
 have gi:∀ (b:Option Addr) (len cap:Nat) (l m:Int),gI env L 0=some l→gI env M len=some m→0≤l→l≤m→m≤cap →
   (Instr.sliceAt t (.slice b len cap) (lo.map a.eval) (hi.map a.eval) none).run P w = .ok (.slice (if cap=l.toNat then b else b.map (·.add (l.toNat*sz))) (m.toNat-l.toNat) (cap-l.toNat)) w:=by
  intro b len cap l m qm qn h0 py RQ
  have hb:=NR (P:=P) (w:=w) true len cap (lo.map a.eval) (hi.map a.eval) l m (Cs h he hl qm) (Cs h he hm qn) h0 py RQ
  simp only[Instr.sliceAt,Sem.run_bind,run_underlying hu,Result.andThen_ok,Instr.slice,hb,nQ hs,Sem.run_pure]
 unfold zK at hk
 split at hk
 ·rename_i fm es
  split at hk
  ·rename_i l m qm qn
   obtain⟨rfl,⟨h0,py,GC⟩,hk⟩:=hk
   cases h1 with
   | sl ad len cap _ _ g hlen ik iJ fO lS hc hr=>
    refine⟨_,gi ad len cap l m qm (by rw[← hlen];exact qn) h0 py (by omega),.plain h hk ?_⟩
    have gK:∀ (i:Nat) (e:List D),((es.drop l.toNat).take (m.toNat-l.toNat))[i]? = some e→es[l.toNat+i]? = some e∧i<m.toNat-l.toNat:=fun i e hi=>by
     rw[ay]at hi
     split at hi
     ·rw[aC]at hi;exact⟨hi,by assumption⟩
     ·cases hi
    refine .sl _ _ _ fm _ (fun i j=>g (l.toNat+i) j) (by simp;omega) (by omega) (by omega) (fun e lR=>fO e (bN (aN lR))) ?_ ?_ ?_
    ·intro hn
     split at hn
     ·omega
     ·cases ad with
      | none=>have:=lS rfl;omega
      | some ad=>simp at hn
    ·intro i e j d hi hd
     obtain⟨h3,h4⟩:=gK i e hi
     obtain⟨b,o,vN,hF,tZ,h1⟩:=hc _ e j d h3 hd
     refine⟨b,o+l.toNat*fm,?_,hF,?_,h1⟩
     ·rw[if_neg (by omega),vN]
      simp[Addr.add_lit]
     ·rw[← tZ,aV]
      congr 2
      omega
    ·intro i e j d hi hd
     exact hr _ e j d (gK i e hi).1 hd
  ·exact hk.elim
 ·rename_i v g0 fm off len
  split at hk
  ·rename_i l m qm qn
   obtain⟨rfl,⟨h0,py,GC⟩,hk⟩:=hk
   cases h1 with
   | eu _ _ _ _ _ cap Lc eD hv ik iJ jV=>
    refine⟨_,gi _ len cap l m qm qn h0 py (by omega),.plain h hk ?_⟩
    by_cases hz:cap=l.toNat
    ·rw[if_pos hz,show m.toNat-l.toNat=0 by omega,show cap-l.toNat=0 by omega]
     exact .kl v g0 fm (off+l.toNat) Lc eD _
    ·rw[if_neg hz]
     have:=ew.eu (c:=c) (w:=w) v g0 fm (off+l.toNat) (m.toNat-l.toNat) (cap-l.toNat) Lc eD hv (by omega) (by omega) (by rw[show off+l.toNat+(cap-l.toNat)=off+cap by omega];exact jV)
     simp only[a8,Addr.add_lit]
     rw[bf,← aV]
     exact this
   | kl _ _ _ _ Lc eD ad=>
    have:l=0:=by omega
    subst this
    have:m=0:=by omega
    subst this
    refine⟨_,gi ad 0 0 0 0 qm qn h0 py (by omega),.plain h hk ?_⟩
    simp only[Int.toNat_zero,if_true,Nat.sub_zero,cc]
    exact .kl v g0 fm off Lc eD ad
  ·exact hk.elim
 ·split at hk
  ·rename_i l m qm qn
   obtain⟨⟨rfl,rfl⟩,hk⟩:=hk
   cases h1 with
   | U=>
    refine⟨_,gi none 0 0 0 0 qm qn (by omega) (by omega) (by omega),.plain h hk ?_⟩
    simp only[Int.toNat_zero,if_true,Nat.sub_zero]
    exact .U
  ·exact hk.elim
 ·exact hk.elim
theorem YO(h:eP G c H w)(he:iS c w env a){t:TypeId}(hu:P.underlying t=some .string){lo hi:Option Operand}{L M:Option X}(hl:qX G lo=some L)(hm:qX G hi=some M)
  {s:ByteArray} (hk:wL env (.val (.string s)) L M H K):∃ r,(Instr.sliceAt t (.string s) (lo.map a.eval) (hi.map a.eval) none).run P w = .ok r w∧gF G c H w K r w:=by
 simp only[wL]at hk
 split at hk
 ·rename_i l m qm qn
  obtain⟨⟨h0,py,GC⟩,hk⟩:=hk
  have hb:=NR (P:=P) (w:=w) false s.size s.size (lo.map a.eval) (hi.map a.eval) l m (Cs h he hl qm) (Cs h he hm qn) h0 py GC
  exact⟨.string (s.extract l.toNat m.toNat),by simp[Instr.sliceAt,run_underlying hu,Instr.slice,hb],.val h hk⟩
 ·exact hk.elim
theorem sZ{v:Nat}{x:KK×List (Value×D)}(h:kj H v=some x):H[v]? = some (.map x.1 x.2):=by
 unfold kj at h
 split at h
 ·cases h;assumption
 ·cases h
theorem HQ(h:eP G c H w){t ty:TypeId}{k:tm}{d:TypeDesc}(hd:P.underlying t=some d)(uk:match k with | .slice=>∃ e,d = .slice e | .string=>d = .string | .map=>∃ k e,d = .map k e)
  {x:D} {u:Value} (h1:ew c w u x) (hk:yR k x H K):∃ r,(Builtin.len_ #[t] ty #[u]).run P w = .ok r w∧gF G c H w K r w:=by
 unfold yR at hk
 split at hk
 ·obtain⟨e,rfl⟩:=uk
  cases h1 with
  | sl ad len cap _ _ g hlen ik iJ fO lS hc hr=>
   refine⟨goInt len,by simp[Builtin.len_,run_underlying hd],.plain h hk ?_⟩
   rw[hlen];exact .val _
 ·obtain⟨e,rfl⟩:=uk
  cases h1 with
  | U=>exact⟨goInt 0,by simp[Builtin.len_,run_underlying hd],.plain h hk (.val _)⟩
 ·rename_i v g0 sz off len
  obtain⟨e,rfl⟩:=uk
  cases h1 with
  | eu _ _ _ _ _ cap L eD hv ik iJ jV=>exact⟨goInt len,by simp[Builtin.len_,run_underlying hd],.plain h hk (.val _)⟩
  | kl=>exact⟨goInt 0,by simp[Builtin.len_,run_underlying hd],.plain h hk (.val _)⟩
 ·have uk:d = .string:=uk
  subst uk
  cases h1
  exact⟨_,by simp[Builtin.len_,run_underlying hd]<;>rfl,.plain h hk (.val _)⟩
 ·rename_i v
  obtain⟨kk,e,rfl⟩:=uk
  split at hk
  ·rename_i nO es ri
   cases h1 with
   | fC _ L eD hv=>
    have fF:=h.ob v _ (sZ ri)
    simp only[Ob.gen]at fF
    rw[eD]at fF
    simp only[fr]at fF
    obtain⟨_,_,arr,clock,hm,fO,_⟩:=fF
    refine⟨goInt arr.size,by simp[Builtin.len_,run_underlying hd,getObj,Sem.run,hm],.plain h hk ?_⟩
    rw[← fO];exact .val _
  ·exact hk.elim
 ·exact hk.elim
theorem M7(h:eP G c H w)(he:iS c w env a){xs:List X}{ops:Array Operand}(hx:qY G ops.toList=some xs)(isMax:Bool)(ts:Array TypeId)(ty:TypeId)(hk:y6 env isMax xs H K) :
  ∃ r,(if isMax then Builtin.max_ ts ty (ops.map a.eval)else Builtin.min_ ts ty (ops.map a.eval)).run P w = .ok r w∧gF G c H w K r w:=by
 have hr:=tA h he ops.toList hx
 have key:∀ (xs:List X) (vs:List Value) (l:List Int),mO env xs=some l→gG c w vs (xs.map (ev env))→vs=l.map (Value.int .i64 ·):=by
  intro xs
  induction xs with
  | nil=>intro vs l hl hr;simp[mO]at hl;subst hl;cases hr;rfl
  | cons x xs ih=>
   intro vs l hl hr
   simp only[mO]at hl
   split at hl
   ·rename_i n l' ml kg
    cases hl
    simp only[List.map_cons]at hr
    cases hr with
    | cons h1 h2=>
     rw[ml]at h1
     cases h1
     rw[ih _ _ kg h2]
     rfl
   ·cases hl
 have e:∀ l:Array Operand,(l.toList.map a.eval).toArray=l.map a.eval:=fun l=>by cases l;simp
 unfold y6 at hk
 split at hk
 ·rename_i p q hi
  have hv:=key _ _ _ hi hr
  have jI:ops.map a.eval = #[.int .i64 p,.int .i64 q]:=by rw[← e,hv];rfl
  cases isMax
  ·refine⟨.int .i64 (min p q),?_,.val h (by simpa using hk)⟩
   simp only[bw,if_false,jI]
   have:(if q<p then q else p)=min p q:=by omega
   simp[Builtin.min_,Builtin.min2,this]
  ·refine⟨.int .i64 (max p q),?_,.val h (by simpa using hk)⟩
   simp only[if_true,jI]
   have:(if q>p then q else p)=max p q:=by omega
   simp[Builtin.max_,Builtin.max2]
   omega
 ·rename_i p q s hi
  have hv:=key _ _ _ hi hr
  have jI:ops.map a.eval = #[.int .i64 p,.int .i64 q,.int .i64 s]:=by rw[← e,hv];rfl
  cases isMax
  ·refine⟨.int .i64 (min (min p q) s),?_,.val h (by simpa using hk)⟩
   simp only[bw,if_false,jI]
   simp[Builtin.min_,Builtin.min2]
   omega
  ·refine⟨.int .i64 (max (max p q) s),?_,.val h (by simpa using hk)⟩
   simp only[if_true,jI]
   simp[Builtin.max_,Builtin.max2]
   omega
 ·exact hk.elim
end
end Go.AL
namespace Go.AL
open Go
section
variable{P:Program}{G:GT}{c:Ctx}{H:et}{w:World}{K:gQ}{env:fg}{a:Act}
theorem MT{G:GT}{c:Ctx}{H:et}{w w':World}(h:eP G c H w){v g:Nat}{t:TypeId}{cs:List D}(hv:H[v]? = some (.row t g cs)){L:Loc}(eD:c.ι v g=some L)(L':Loc)
  (hg:(w'.os=w.os∧w.drawn≤w'.drawn)∧w'.tape=w.tape∧w'.output=w.output∧w.heap.size≤w'.heap.size) (Dq:∀ b,b<w.heap.size→¬ (L.gP=false∧b=L.b)→w'.heap[b]? = w.heap[b]?)
  (uz:L'.gP=false→(w.heap.size≤L'.b∨(L.gP=false∧L'.b=L.b))∧L'.b<w'.heap.size) (kr:List D)
  (fF:(∀ u d,ew c w u d→ew (c.set v (g+1) L') w' u d)→fr (c.set v (g+1) L') w' (some L') (.row t (g+1) kr)) :
  eP G (c.set v (g+1) L') (H.set v (.row t (g+1) kr)) w'∧Step H.length c H w (c.set v (g+1) L') (H.set v (.row t (g+1) kr)) w':=by
 have gw:v<H.length:=(af.1 hv).1
 have rp:jg c H v L:=⟨_,hv,rfl,eD⟩
 have ht:rZ H v (.row t (g+1) kr) (H.set v (.row t (g+1) kr)):=⟨ny gw,.inr (.inr ⟨_,hv,rfl,Nat.lt_succ_self _⟩),by simp⟩
 have R2:∀ b,c.F b→¬ (L.gP=false∧b=L.b):=fun b hF e=>h.nF b ⟨v,L,rp,e.1,e.2.symm⟩ hF
 have kf:∀ u l,jg (c.set v (g+1) L') (H.set v (.row t (g+1) kr)) u l→(u=v∧l=L')∨(u≠v∧jg c H u l):=fun u l hl=>wR ht hl
 have nJ:∀ b,jz (c.set v (g+1) L') (H.set v (.row t (g+1) kr)) b→(L'.gP=false∧b=L'.b)∨(jz c H b∧¬ (L.gP=false∧b=L.b)):=by
  rintro b ⟨u,l,hl,jW,rfl⟩
  rcases kf u l hl with⟨_,rfl⟩|⟨fJ,h1⟩
  ·exact .inl ⟨jW,rfl⟩
  ·exact .inr ⟨⟨u,l,h1,jW,rfl⟩,fun e=>fJ (h.inj u v l L h1 rp jW e.1 e.2)⟩
 have hs:Step H.length c H w (c.set v (g+1) L') (H.set v (.row t (g+1) kr)) w':={
  os:=hg.1
  tape:=hg.2.1
  output:=hg.2.2.1
  size:=hg.2.2.2
  RT:=rfl
  Fm:=fun _ h=>h
  Fn:=fun _ h=>.inl h
  kept:=fun b hb hn=>Dq b hb fun e=>hn ⟨v,L,rp,e.1,e.2.symm⟩
  old:=fun u k l _ hu=>N8 h ht u k l hu
  own:=fun b hb=>by
   rcases nJ b hb with⟨jW,rfl⟩|⟨hb,_⟩
   ·rcases(uz jW).1 with h1|⟨h1,h2⟩
    ·exact .inl h1
    ·exact .inr ⟨v,L,rp,h1,h2.symm⟩
   ·exact .inr hb }
 have hr:∀ u d,ew c w u d→ew (c.set v (g+1) L') w' u d:=fun u d hd=>hd.mA h.toHeapOK hs
 refine⟨{
  inj:=fun u u' l l' h1 h2 h5 h6 he=>by
   rcases kf u l h1 with⟨rfl,rfl⟩|⟨n1,b1⟩<;>rcases kf u' l' h2 with⟨rfl,rfl⟩|⟨n2,b2⟩
   ·rfl
   ·exfalso
    have fe:=h.lt l'.b ⟨u',l',b2,h6,rfl⟩
    rcases(uz h5).1 with h7|⟨h7,h8⟩
    ·omega
    ·exact n2 (h.inj u' u l' L b2 rp h6 h7 (by omega))
   ·exfalso
    have fe:=h.lt l.b ⟨u,l,b1,h5,rfl⟩
    rcases(uz h6).1 with h7|⟨h7,h8⟩
    ·omega
    ·exact n1 (h.inj u u' l L b1 rp h5 h7 (by omega))
   ·exact h.inj u u' l l' b1 b2 h5 h6 he
  lt:=fun b hb=>by
   rcases nJ b hb with⟨jW,rfl⟩|⟨hb,_⟩
   ·exact(uz jW).2
   ·exact aH (h.lt b hb) hg.2.2.2
  nF:=fun b hb hF=>by
   rcases nJ b hb with⟨jW,rfl⟩|⟨hb,_⟩
   ·rcases(uz jW).1 with h7|⟨h7,h8⟩
    ·have:=h.iD _ hF;omega
    ·exact R2 _ hF ⟨h7,h8⟩
   ·exact h.nF b hb hF
  iD:=fun b hb=>aH (h.iD b hb) hg.2.2.2
  out:=fun u k hu=>by
   simp only[bV]at hu
   rw[Ctx.pP _ _ (by rintro⟨rfl,_⟩;omega)];exact h.out u k hu
  jD:=fun u o k ho hk=>by
   rw[ny gw]at ho
   split at ho
   ·rename_i e
    cases ho;subst e
    rcases hk with hk|⟨_,hk⟩
    ·cases hk
    ·simp only[Ob.gen]at hk
     rw[Ctx.pP _ _ (by rintro⟨_,rfl⟩;omega)];exact h.jD u _ k hv (.inr ⟨rfl,by simp only[Ob.gen];omega⟩)
   ·rename_i e
    rw[Ctx.pP _ _ (fun h=>e h.1)]
    exact h.jD u o k ho hk
  ob:=fun u o ho=>by
   rw[ny gw]at ho
   split at ho
   ·rename_i e
    cases ho;subst e
    simp only[Ob.gen]
    rw[Ctx.oK]
    exact fF hr
   ·rename_i fJ
    rw[Ctx.pP _ _ (fun h=>fJ h.1)]
    exact fr.nu (c:=c) (c':=c.set v (g+1) L') rfl hr (fun l hl jI hd=>Dq _ (h.lt _ ⟨u,l,⟨o,ho,hd,hl⟩,jI,rfl⟩) fun e=>fJ (h.inj u v l L ⟨o,ho,hd,hl⟩ rp jI e.1 e.2)) (h.ob u o ho)
  gl:=fun g' cs ub=>by
   obtain⟨fj,pC⟩:=h.gl g' cs ub
   exact⟨fj,hr _ _ pC⟩
  rt:=h.rt },hs⟩
theorem HG{G:GT}{c:Ctx}{H:et}{w w':World}(h:eP G c H w){v g:Nat}{t:TypeId}{cs:List D}(hv:H[v]? = some (.row t g cs)){L:Loc}(eD:c.ι v g=some L)(L':Loc)(fM:L'.gP=false)
  (hg:(w'.os=w.os∧w.drawn≤w'.drawn)∧w'.tape=w.tape∧w'.output=w.output∧w.heap.size≤w'.heap.size) (Dq:∀ b,b<w.heap.size→¬ (L.gP=false∧b=L.b)→w'.heap[b]? = w.heap[b]?)
  (uz:(w.heap.size≤L'.b∨(L.gP=false∧L'.b=L.b))∧L'.b<w'.heap.size)
  (arr:Array Value) (ku:w'.heap[L'.b]? = some (.cells arr t (0,0))) (jV:L'.top=arr.size) (kr:List D) (hlen:L'.base+kr.length≤L'.top)
  (hc:∀ (i:Nat) (d:D),kr[i]? = some d→∃ u,arr[L'.base+i]? = some u∧u.oneCell'=true∧ew c w u d) :
  eP G (c.set v (g+1) L') (H.set v (.row t (g+1) kr)) w'∧Step H.length c H w (c.set v (g+1) L') (H.set v (.row t (g+1) kr)) w':=by
 refine MT h hv eD L' hg Dq (fun _=>uz) kr fun hr=>?_
 simp only[fr,fM]
 refine⟨arr,ku,jV,hlen,fun i d hd=>?_⟩
 obtain⟨x,mo,jO,rA⟩:=hc i d hd
 exact⟨x,mo,jO,hr _ _ rA⟩
theorem PI{G:GT}{c:Ctx}{H:et}{w:World}(h:eP G c H w){v g:Nat}{t:TypeId}{cs:List D}(hv:H[v]? = some (.row t g cs)){L:Loc}(eD:c.ι v g=some L) :
  eP G (c.set v (g+1) L) (H.set v (.row t (g+1) [])) w∧Step H.length c H w (c.set v (g+1) L) (H.set v (.row t (g+1) [])) w:=by
 refine MT h hv eD L ⟨⟨rfl,Nat.le_refl _⟩,rfl,rfl,Nat.le_refl _⟩ (fun _ _ _=>rfl) (fun jW=>⟨.inr ⟨jW,rfl⟩,h.lt _ ⟨v,L,⟨_,hv,rfl,eD⟩,jW,rfl⟩⟩) [] fun _=>?_
 have h0:=h.ob v _ hv
 simp only[Ob.gen]at h0
 rw[eD]at h0
 simp only[fr]at h0 ⊢
 split
 ·simp
 ·rename_i jW
  simp only[jW]at h0
  obtain⟨arr,h1,h2,h3,_⟩:=h0
  exact⟨arr,h1,h2,by simp;omega,by simp⟩
theorem Ii{t u ty e:TypeId}{i:TypeInfo}{zv:Value}(ht:P.underlying t=some (.slice e))(hu:∃ e',P.underlying u=some (.slice e'))(hi:P.info? e=some i)(hz:i.zero=some zv)
  (b:Option Addr) (lg pO:Nat) (y:Value) (yb:Option Addr) (n yc:Nat) (hy:y = .slice yb n yc) (Nc news:List Value)
  (hold:(Builtin.firstCells i.size lg (.slice b lg pO)).run P w.drew = .ok Nc.toArray w.drew) (jT:(Builtin.firstCells i.size n y).run P w.drew = .ok news.toArray w.drew)
  (hg:pO<lg+n) (vK:lg+n≤9223372036854775807) (hb:(lg+n)*i.bytes≤140737488355328) :
  (Builtin.append_ #[t,u] ty #[.slice b lg pO,y]).run P w = .ok (.slice (some ⟨w.heap.size,0,none⟩) (lg+n) (grownCap w (lg+n) pO e))
    (w.drew.alloc (.cells (Nc.toArray++news.toArray++Builtin.zeroCells zv.cells (grownCap w (lg+n) pO e-(lg+n))) e)):=by
 subst hy
 obtain⟨e',hu⟩:=hu
 have hn:¬ (lg+n≤pO):=by omega
 have KZ:¬ (9223372036854775807<((lg:Int)+(n:Int))):=by omega
 have F6:¬ (281474976710656<Builtin.nextslicecap (lg+n) pO*i.bytes):=by have:=growslice_fits hg hb;omega
 simp[Builtin.append_,run_underlying ht,run_underlying hu,sizeOf,typeInfo,zeroValue,hi,hz,Builtin.lenOf,hn,KZ,F6,Question.forced,newRow,grownCap,hold,jT]
 congr 2
 apply dC
 simp[bg]
theorem Zz{t u ty e:TypeId}{i:TypeInfo}(ht:P.underlying t=some (.slice e))(hu:∃ e',P.underlying u=some (.slice e'))(hi:P.info? e=some i)
  (b o:Nat) (lg pO:Nat) (y:Value) (yb:Option Addr) (n yc:Nat) (hy:y = .slice yb n yc) (news:List Value) (arr:Array Value) (hg:w.heap[b]? = some (.cells arr e (0,0)))
  (jT:(Builtin.firstCells i.size n y).run P w = .ok news.toArray w) (h1:∀ v∈news,v.oneCell'=true) (yz:lg+n≤pO) (jS:o+lg*i.size+news.length≤arr.size) :
  (Builtin.append_ #[t,u] ty #[.slice (some ⟨b,o,none⟩) lg pO,y]).run P w = .ok (.slice (some ⟨b,o,none⟩) (lg+n) pO)
    (w.setRow b (arr.toList.take (o+lg*i.size)++news++arr.toList.drop (o+lg*i.size+news.length)).toArray):=by
 subst hy
 obtain⟨e',hu⟩:=hu
 have eJ:=run_storeCells_at P b (o+lg*i.size) e news 0 arr w hg (by simpa using jS) h1
 simp only[cc]at eJ
 simp[Builtin.append_,run_underlying ht,run_underlying hu,sizeOf,typeInfo,hi,Builtin.lenOf,yz,jT,Addr.add_lit,eJ]
theorem FQ{sz:Nat}{w':World}{yb:Option Addr}{yc n:Nat}{vs:List Value}(hl:vs.length=n*sz)(lS:yb=none→n=0)(hc:∀ ad,yb=some ad→∀ (j:Nat) (v:Value),vs[j]? = some v→w'.cell? (ad.add j)=some v) :
  (Builtin.firstCells sz n (.slice yb n yc)).run P w' = .ok vs.toArray w':=by
 cases yb with
 | none=>
  have:=lS rfl
  subst this
  have:vs = []:=aU (by simpa using hl)
  subst this
  exact run_firstCells_none w' sz 0 0 yc
 | some ad=>exact run_firstCells_some w' sz n ad n yc vs hl (hc ad rfl)
theorem KU(w:World)(o:Obj):ig w (w.drew.alloc o):=(ig.drew w).trans (ig.alloc _ _)
theorem Yb(h:eP G c H w){al:Al}(fu:j' H al){t u ty e:TypeId}{i:TypeInfo}{z:List D}(ht:P.underlying t=some (.slice e))(hu:∃ e',P.underlying u=some (.slice e'))(hi:P.info? e=some i)(hz:mC P e=some z)(pG:z.length=i.size)(iy:0<i.size)
  {x y:D} {ux uy:Value} (h1:ew c w ux x) (h2:ew c w uy y) (hk:xt e i.size i.bytes x y H al K):∃ r w',(Builtin.append_ #[t,u] ty #[ux,uy]).run P w = .ok r w'∧gF G c H w K r w':=by
 obtain⟨zv,rC,DK,oo⟩:=tf hz w
 have yG:i.zero=some zv:=by simpa[hi]using DK
 have qw:zv.cells.size=i.size:=by have:=(oo c w).len;simp at this;omega
 unfold xt at hk
 split at hk
 ·rename_i ys n mN
  obtain⟨yb,yc,vs,mn,iE,iQ,Me,yF,yE⟩:=Iv h iy h2 mN
  have gw:vs.length=n*i.size:=by rw[iE.len,iQ]
  have jT:∀ w',(∀ b,w'.cell? b=w.cell? b)→(Builtin.firstCells i.size n uy).run P w' = .ok vs.toArray w':=fun w' pF=>by
   rw[mn];exact FQ gw yF (fun ad ha j v hj=>by rw[pF];exact yE ad ha j v hj)
  split at hk
  ·rename_i v g fm off len
   split at hk
   ·rename_i t' cs fy
    have hv:=pa fy
    dsimp only at hv
    obtain⟨⟨rfl,L6,hlen,l7,vK⟩,hk⟩:=hk
    have Sr:=L6.symm
    subst Sr
    clear L6
    have SA:v<H.length:=(af.1 hv).1
    cases h1 with
    | eu _ _ _ _ _ cap L eD fM ik iJ jV=>
     obtain⟨arr,vM,Gd,QY,Ge⟩:=tb h hv eD fM
     have Dv:Cells c w (((((arr.toList.drop L.base).take cs.length)).drop (off*i.size)).take (len*i.size)) ((cs.drop (off*i.size)).take (len*i.size)):=(Ge.drop _).take _
     rw[aV]at jV hlen
     generalize off*i.size=q at *
     by_cases yz:len+n≤cap
     ·have jS:L.base+q+len*i.size+vs.length≤arr.size:=by
       have hm:=bh i.size yz
       rw[aV]at hm
       omega
      have gi:=Zz (ty:=ty) ht hu hi L.b (L.base+q) len cap uy yb n yc mn vs arr vM (jT w fun _=>rfl) iE.one yz jS
      refine⟨_,_,gi,?_⟩
      have fO:(arr.toList.take (L.base+q+len*i.size)++vs++arr.toList.drop (L.base+q+len*i.size+vs.length)).toArray.size=arr.size:=by simp;omega
      obtain⟨m1,m2⟩:=HG (w':=w.setRow L.b (arr.toList.take (L.base+q+len*i.size)++vs++arr.toList.drop (L.base+q+len*i.size+vs.length)).toArray) h hv eD ⟨L.b,L.base+q,L.top,false⟩ rfl
       ⟨⟨rfl,Nat.le_refl _⟩,rfl,rfl,by simp[World.setRow]⟩ (fun b _ hn=>by simp only[World.setRow,bC];rw[if_neg (fun e=>hn ⟨fM,e.symm⟩)])
       ⟨.inr ⟨fM,rfl⟩,by have:=h.lt _ ⟨v,L,⟨_,hv,rfl,eD⟩,fM,rfl⟩;simpa[World.setRow]using this⟩
       _ (setRow_heap w L.b arr _ _ _ vM) (by show L.top=_;rw[Gd,fO]) ((cs.drop q).take (len*i.size)++ys) (by simp only[az,aP,bk];rw[← iE.len];omega) (fun j d hd=>by
        obtain⟨x,hx,mo,jO⟩:=(Dv.append iE).get hd
        refine⟨x,?_,mo,jO⟩
        rw[← hx]
        simp only[cB]
        have iP:(List.take (L.base+q+len*i.size) arr.toList).length=L.base+q+len*i.size:=by simp;omega
        have il:(List.take (len*i.size) (List.drop q (List.take cs.length (List.drop L.base arr.toList)))).length=len*i.size:=by simp;omega
        by_cases c1:j<len*i.size
        ·rw[ag (by simp;omega),ag (by rw[iP];omega),ag (by rw[il];omega)]
         simp only[ay,aC]
         rw[if_pos (by omega),if_pos (by omega),if_pos (by omega)]
         congr 1;omega
        ·have l9:j<len*i.size+vs.length:=by have:=(af.1 hx).1;rw[az,il]at this;omega
         rw[ag (by rw[az,iP];omega),aj (by rw[iP];omega),aj (by rw[il];omega),iP,il]
         congr 1
         omega)
      refine⟨_,_,_,hk,m1,?_,m2⟩
      have:=ew.eu (c:=c.set v (g+1) ⟨L.b,L.base+q,L.top,false⟩) (w:=w.setRow L.b (arr.toList.take (L.base+q+len*i.size)++vs++arr.toList.drop (L.base+q+len*i.size+vs.length)).toArray) v (g+1) i.size 0 (len+n) cap ⟨L.b,L.base+q,L.top,false⟩ (Ctx.oK _ _ _ _) rfl yz iJ (by simp;omega)
      simpa using this
     ·have hold:(Builtin.firstCells i.size len (.slice (some ⟨L.b,L.base+q,none⟩) len cap)).run P w.drew = .ok ((((arr.toList.drop L.base).take cs.length).drop q).take (len*i.size)).toArray w.drew:=by
       refine run_firstCells_some _ _ _ _ _ _ _ (by rw[Dv.len];simp;omega) (fun j v hj=>?_)
       rw[ay]at hj
       split at hj
       ·rw[aC,ay]at hj
        split at hj
        ·rw[aC]at hj
         rw[Addr.add_lit]
         show w.cell? ⟨L.b,L.base+q+j,none⟩=some v
         simp[World.cell?,vM]
         rw[bf]
         simpa using hj
        ·cases hj
       ·cases hj
      have gi:=Ii (ty:=ty) ht hu hi yG (some ⟨L.b,L.base+q,none⟩) len cap uy yb n yc mn _ vs hold (jT _ fun _=>rfl) (by omega) vK l7
      refine⟨_,_,gi,?_⟩
      have L5:((((arr.toList.drop L.base).take cs.length).drop q).take (len*i.size)).toArray.size=len*i.size:=by have:=Dv.len;simp at this ⊢;omega
      have rl:=grownCap_ge w (len+n) cap e
      have lQ:=grownCap_le_maxLen w (len+n) cap e (by unfold maxLen;omega)
      obtain⟨m1,m2⟩:=HG (w':=w.drew.alloc (.cells (((((arr.toList.drop L.base).take cs.length).drop q).take (len*i.size)).toArray++vs.toArray++Builtin.zeroCells zv.cells (grownCap w (len+n) cap e-(len+n))) e)) h hv eD
       ⟨w.heap.size,0,grownCap w (len+n) cap e*i.size,false⟩ rfl ⟨⟨rfl,Nat.le_succ _⟩,rfl,rfl,by simp⟩ (fun b hb _=>(KU w _).kept b hb) ⟨.inl (Nat.le_refl _),by simp⟩
       _ (heap_alloc_new w.drew _) (by
        simp only[cj,L5,cW,gw,size_zeroCells,qw,← aV]
        congr 1;omega) ((cs.drop q).take (len*i.size)++ys) (by
        simp only[az,aP,bk,iQ,aX]
        have:=bh i.size rl
        rw[aV]at this
        omega) (fun j d hd=>by
        obtain⟨x,hx,mo,jO⟩:=(Dv.append iE).get hd
        refine⟨x,?_,mo,jO⟩
        rw[← hx,aX,← bq]
        have fe:=(af.1 hx).1
        simp only[cI]
        rw[ag (by simpa using fe)])
      refine⟨_,_,_,hk,m1,?_,m2⟩
      have:=ew.eu (c:=c.set v (g+1) ⟨w.heap.size,0,grownCap w (len+n) cap e*i.size,false⟩) (w:=w.drew.alloc (.cells (((((arr.toList.drop L.base).take cs.length).drop q).take (len*i.size)).toArray++vs.toArray++Builtin.zeroCells zv.cells (grownCap w (len+n) cap e-(len+n))) e))
       v (g+1) i.size 0 (len+n) (grownCap w (len+n) cap e) ⟨w.heap.size,0,grownCap w (len+n) cap e*i.size,false⟩ (Ctx.oK _ _ _ _) rfl rl lQ (by simp)
      simpa using this
    | kl _ _ _ _ L eD ad=>
     simp only[aX,cc,b9,du,bJ]at hk l7 vK ⊢
     by_cases hn:n=0
     ·subst hn
      have G9:vs = []:=aU (by simpa using gw)
      have SS:ys = []:=aU (by simpa using iQ)
      subst SS
      have gi:(Builtin.append_ #[t,u] ty #[.slice ad 0 0,uy]).run P w = .ok (.slice ad 0 0) w:=by
       obtain⟨e',hu⟩:=hu
       have uu:=jT w fun _=>rfl
       rw[G9]at uu
       rw[mn]at uu ⊢
       simp[Builtin.append_,run_underlying ht,run_underlying hu,sizeOf,typeInfo,hi,Builtin.lenOf,uu]
       cases ad<;>simp[storeCells]
      obtain⟨m1,m2⟩:=PI h hv eD
      exact⟨_,_,gi,_,_,_,hk,m1,.kl v (g+1) i.size 0 L (Ctx.oK _ _ _ _) ad,m2⟩
     ·have hold:(Builtin.firstCells i.size 0 (.slice ad 0 0)).run P w.drew = .ok ([]:List Value).toArray w.drew:=FQ (by simp) (fun _=>rfl) (fun _ _ j v hj=>by simp at hj)
      have gi:=Ii (w:=w) (ty:=ty) ht hu hi yG ad 0 0 uy yb n yc mn [] vs hold (jT _ fun _=>rfl) (by omega) (by omega) (by simpa using l7)
      simp only[aX]at gi
      refine⟨_,_,gi,?_⟩
      have rl:=grownCap_ge w n 0 e
      have lQ:=grownCap_le_maxLen w n 0 e (by unfold maxLen;omega)
      obtain⟨m1,m2⟩:=HG (w':=w.drew.alloc (.cells (([]:List Value).toArray++vs.toArray++Builtin.zeroCells zv.cells (grownCap w n 0 e-n)) e)) h hv eD
       ⟨w.heap.size,0,grownCap w n 0 e*i.size,false⟩ rfl ⟨⟨rfl,Nat.le_succ _⟩,rfl,rfl,by simp⟩ (fun b hb _=>(KU w _).kept b hb) ⟨.inl (Nat.le_refl _),by simp⟩
       _ (heap_alloc_new w.drew _) (by
        simp only[cj,cW,cw,gw,size_zeroCells,qw,aX,← aV]
        congr 1;omega) ys (by
        simp only[iQ,aX]
        exact bh i.size rl) (fun j d hd=>by
        obtain⟨x,hx,mo,jO⟩:=iE.get hd
        refine⟨x,?_,mo,jO⟩
        rw[← hx,aX,← bq]
        have fe:=(af.1 hx).1
        simp only[cI,bJ]
        rw[ag (by simpa using fe)])
      refine⟨_,_,_,hk,m1,?_,m2⟩
      have:=ew.eu (c:=c.set v (g+1) ⟨w.heap.size,0,grownCap w n 0 e*i.size,false⟩) (w:=w.drew.alloc (.cells (([]:List Value).toArray++vs.toArray++Builtin.zeroCells zv.cells (grownCap w n 0 e-n)) e))
       v (g+1) i.size 0 n (grownCap w n 0 e) ⟨w.heap.size,0,grownCap w n 0 e*i.size,false⟩ (Ctx.oK _ _ _ _) rfl rl lQ (by simp)
      simpa using this
   ·exact hk.elim
  ·cases h1 with
   | U=>
    by_cases hn:n=0
    ·rw[if_pos hn]at hk
     subst hn
     have G9:vs = []:=aU (by simpa using gw)
     have gi:(Builtin.append_ #[t,u] ty #[.slice none 0 0,uy]).run P w = .ok (.slice none 0 0) w:=by
      obtain⟨e',hu⟩:=hu
      have uu:=jT w fun _=>rfl
      rw[G9]at uu
      rw[mn]at uu ⊢
      simp[Builtin.append_,run_underlying ht,run_underlying hu,sizeOf,typeInfo,hi,Builtin.lenOf,uu]
     exact⟨_,_,gi,.plain h hk .U⟩
    ·rw[if_neg hn]at hk
     obtain⟨⟨l7,vK⟩,hk⟩:=hk
     have hold:(Builtin.firstCells i.size 0 (.slice none 0 0)).run P w.drew = .ok ([]:List Value).toArray w.drew:=FQ (by simp) (fun _=>rfl) (fun _ _ j v hj=>by simp at hj)
     have gi:=Ii (w:=w) (ty:=ty) ht hu hi yG none 0 0 uy yb n yc mn [] vs hold (jT _ fun _=>rfl) (by omega) (by omega) (by simpa using l7)
     simp only[aX]at gi
     refine⟨_,_,gi,?_⟩
     have rl:=grownCap_ge w n 0 e
     have lQ:=grownCap_le_maxLen w n 0 e (by unfold maxLen;omega)
     have fO:(([]:List Value).toArray++vs.toArray++Builtin.zeroCells zv.cells (grownCap w n 0 e-n)).size=grownCap w n 0 e*i.size:=by
      simp only[cj,cW,cw,gw,size_zeroCells,qw,aX,← aV]
      congr 1;omega
     obtain⟨L,e1,e2,e3,e4,e5,e6⟩:=y8 h w.drew (ig.drew w) e vs ys vs.length (([]:List Value).toArray++vs.toArray++Builtin.zeroCells zv.cells (grownCap w n 0 e-n)) (fu _).pc iE (by
      simp only[cI,bJ]
      exact List.take_left) (by simp only[cj,cW];omega)
     have hp:=Ec (c:=c) (w:=w.drew.alloc (.cells (([]:List Value).toArray++vs.toArray++Builtin.zeroCells zv.cells (grownCap w n 0 e-n)) e)) e1 e3 al.1 0 i.size n (grownCap w n 0 e) (by rw[e4,fO]) rl lQ
     rw[e2]at hp
     exact⟨_,_,_,hk,e5,hp,e6⟩
  ·exact hk.elim
 ·exact hk.elim
theorem Yp(h:eP G c H w){t u ty e:TypeId}{sz:Nat}(ht:P.underlying t=some (.slice e))(hs:iG P e=some sz)(iy:0<sz){x y:D}{ux uy:Value}(h1:ew c w ux x)(h2:ew c w uy y)(hk:xO sz x y H K) :
  ∃ r w',(Builtin.copy_ #[t,u] ty #[ux,uy]).run P w = .ok r w'∧gF G c H w K r w':=by
 have key:∀ (ys:List D) (n:Nat),jy sz H y=some (ys,n)→∃ vs yb yc,uy = .slice yb n yc∧Cells c w vs ys∧ys.length=n*sz∧∀ m,m≤n→(Builtin.firstCells sz m uy).run P w = .ok (vs.take (m*sz)).toArray w:=by
  intro ys n mN
  obtain⟨yb,yc,vs,mn,iE,iQ,Me,yF,yE⟩:=Iv h iy h2 mN
  refine⟨vs,yb,yc,mn,iE,iQ,fun m hm=>?_⟩
  have gw:vs.length=n*sz:=by rw[iE.len,iQ]
  have hle:=bh sz hm
  rw[mn]
  cases yb with
  | none=>
   have:=yF rfl
   subst this
   have:m=0:=by omega
   subst this
   simp[Builtin.firstCells]
  | some ad=>
   refine run_firstCells_some w sz m ad n yc _ (by simp;omega) (fun j v hj=>?_)
   rw[ay]at hj
   split at hj
   ·exact yE ad rfl j v hj
   ·cases hj
 unfold xO at hk
 split at hk
 ·rename_i v g fm off len ys n mN
  obtain⟨vs,yb,yc,mn,iE,iQ,Gq⟩:=key ys n mN
  split at hk
  ·rename_i t' cs fy
   have hv:=pa fy
   dsimp only at hv
   obtain⟨⟨rfl,jS⟩,hk⟩:=hk
   have hf:=Gq (min n len) (Nat.min_le_left _ _)
   have hle:min n len*fm≤vs.length:=by rw[iE.len,iQ];exact bh _ (Nat.min_le_left _ _)
   have afz:min n len*fm≤len*fm:=bh _ (Nat.min_le_right _ _)
   rw[aV]at jS
   cases h1 with
   | eu _ _ _ _ _ cap L eD fM ik iJ jV=>
    obtain⟨arr,vM,Gd,QY,Ge⟩:=tb h hv eD fM
    have eJ:=run_storeCells_at P L.b (L.base+off*fm) t' (vs.take (min n len*fm)) 0 arr w vM (by simp;omega) (fun v hv=>iE.one v (aN hv))
    simp only[cc]at eJ
    have gi:(Builtin.copy_ #[t,u] ty #[.slice (some ⟨L.b,L.base+off*fm,none⟩) len cap,uy]).run P w = .ok (goInt (min n len:Nat)) (w.setRow L.b (arr.toList.take (L.base+off*fm)++vs.take (min n len*fm)++arr.toList.drop (L.base+off*fm+(vs.take (min n len*fm)).length)).toArray):=by
     rw[mn]at hf ⊢
     have hm:n.min len=min n len:=rfl
     simp[Builtin.copy_,run_underlying ht,Builtin.lenOf,nQ hs,hm,hf,eJ]
    have gw:(vs.take (min n len*fm)).length=min n len*fm:=by simp;omega
    have K7:=Ge.nz (iE.take (min n len*fm)) (off*fm)
    have SO:(ys.take (min n len*fm)).length=min n len*fm:=by rw[aP,← iE.len];omega
    obtain⟨m1,m2⟩:=z6 h hv eD fM vM (arr.toList.take (L.base+off*fm)++vs.take (min n len*fm)++arr.toList.drop (L.base+off*fm+(vs.take (min n len*fm)).length)).toArray (by simp;omega) Gd
     (cs.take (off*fm)++ys.take (min n len*fm)++cs.drop (off*fm+min n len*fm)) (by simp only[az,aP,bk];omega) (fun j d hd=>by
      rw[SO,gw]at K7
      obtain⟨x,hx,mo,jO⟩:=K7.get hd
      refine⟨x,?_,mo,jO⟩
      rw[← hx]
      simp only[cB,gw]
      have iP:(List.take (L.base+off*fm) arr.toList).length=L.base+off*fm:=by simp;omega
      have il:(List.take (off*fm) (List.take cs.length (List.drop L.base arr.toList))).length=off*fm:=by simp;omega
      by_cases c1:j<off*fm
      ·rw[ag (by simp;omega),ag (by rw[iP];omega),ag (by simp;omega),ag (by rw[il];omega)]
       simp only[ay,aC]
       rw[if_pos (by omega),if_pos c1,if_pos (by omega)]
      ·by_cases c2:j<off*fm+min n len*fm
       ·rw[ag (by rw[az,iP,gw];omega),aj (by rw[iP];omega),ag (by rw[az,il,gw];omega),aj (by rw[il];omega),iP,il]
        congr 1
        omega
       ·have lB:j<cs.length:=by have:=(af.1 hd).1;simp at this;omega
        rw[aj (by rw[az,iP,gw];omega),aj (by rw[az,il,gw];omega)]
        simp only[aC,ay,az,iP,il,gw]
        rw[if_pos (by omega)]
        congr 1
        omega)
    exact⟨_,_,gi,_,_,c,hk,m1,.val _,m2⟩
   | kl _ _ _ _ L eD ad=>
    have ym:min n 0=0:=eo n
    simp only[ym,b9,du,av,cc,bK]at hk hf
    have pD:H.set v (.row t' g cs)=H:=by
     apply bI
     intro j
     rw[bH]
     have gw:v<H.length:=(af.1 hv).1
     split
     ·rename_i e
      subst e
      first|(rw[if_pos gw];exact hv.symm)|exact hv.symm
     ·rfl
    rw[pD]at hk
    refine⟨goInt 0,w,?_,.plain h hk (.val _)⟩
    rw[mn]at hf ⊢
    have hm:n.min 0=0:=eo n
    simp[Builtin.copy_,run_underlying ht,Builtin.lenOf,nQ hs,hm,hf]
    cases ad<;>simp[storeCells]
  ·exact hk.elim
 ·rename_i q mN
  obtain⟨ys,n⟩:=q
  obtain⟨vs,yb,yc,mn,iE,iQ,Gq⟩:=key ys n mN
  cases h1 with
  | U=>
   have hf:=Gq 0 (Nat.zero_le _)
   refine⟨goInt 0,w,?_,.plain h hk (.val _)⟩
   rw[mn]at hf ⊢
   have hm:n.min 0=0:=eo n
   simp only[b9,du]at hf
   simp[Builtin.copy_,run_underlying ht,Builtin.lenOf,nQ hs,hm,hf]
 ·exact hk.elim
end
end Go.AL
namespace Go.AL
open Go
section
variable{P:Program}{G:GT}{c:Ctx}{H:et}{w:World}{K:gQ}{env:fg}{a:Act}
theorem Mu{x:D}{kv u:Value}(hr:ew c w u x)(h:keyOf x=some kv):u=kv:=by
 unfold keyOf at h
 split at h
 ·cases h;cases hr;rfl
 ·cases h;cases hr;rfl
 ·cases h;cases hr;rfl
 ·rename_i cs
  simp only[ai]at h
  obtain⟨l,hl,rfl⟩:=h
  cases hr with
  | agg vs _ hlen _ h1=>
   have key:∀ (cs:List D) (vs l:List Value),yO cs=some l→vs.length=cs.length→(∀ (i:Nat) (v:Value) (d:D),vs[i]? = some v→cs[i]? = some d→ew c w v d)→vs=l:=by
    intro cs
    induction cs with
    | nil=>intro vs l hl hlen _;simp[yO]at hl;subst hl;exact aU (by simpa using hlen)
    | cons d cs ih=>
     intro vs l hl hlen h1
     cases vs with
     | nil=>simp at hlen
     | cons v vs=>
      unfold yO at hl
      split at hl
      ·rename_i heq;cases heq
      ·rename_i k n r heq
       cases heq
       simp only[ai]at hl
       obtain⟨l',kg,rfl⟩:=hl
       have h0:=h1 0 v _ rfl rfl
       cases h0
       rw[ih vs l' kg (by simpa using hlen) (fun i v d hv hd=>h1 (i+1) v d (by simpa using hv) (by simpa using hd))]
      ·cases hl
   rw[key cs vs l hl hlen h1]
 ·cases h
theorem IB{t:TypeId}{kk:KK}(h:qy P t=some kk):∃ d,P.underlying t=some d∧((∃ k,d = .int k∧kk = .int k)∨(d = .string∧kk = .str)∨(d = .bool∧kk = .bool)):=by
 unfold qy at h
 split at h
 ·rename_i k hu;cases h;exact⟨_,hu,.inl ⟨k,rfl,rfl⟩⟩
 ·rename_i hu;cases h;exact⟨_,hu,.inr (.inl ⟨rfl,rfl⟩)⟩
 ·rename_i hu;cases h;exact⟨_,hu,.inr (.inr ⟨rfl,rfl⟩)⟩
 ·cases h
theorem run_checkKey{t:TypeId}{kk:KK}(h:qy P t=some kk)(b:Bool){kv:Value}(_hk:kk.has kv=true)(w:World):(Instr.checkKey b 10000 t kv).run P w = .ok () w:=by
 obtain⟨d,hd,hc⟩:=IB h
 unfold Instr.checkKey
 rcases hc with⟨k,rfl,rfl⟩|⟨rfl,rfl⟩|⟨rfl,rfl⟩<;>simp only[Sem.run_bind,run_underlying hd,Result.andThen_ok]<;>rfl
def pn(kv:Value):List MapEntry→Nat→Option (Nat×Value)
 | [],_=>none
 | e::es,i=>if ot kv e.key then some (i,e.val)else pn kv es (i+1)
theorem Ql{d:TypeDesc}{kk:KK}(hc:(∃ k,d = .int k∧kk = .int k)∨(d = .string∧kk = .str)∨(d = .bool∧kk = .bool)){kv:Value}(hk:kk.has kv=true) :
  ∀ (es:List MapEntry) (i:Nat),(∀ e∈es,kk.has e.key=true)→Instr.findNow d kv es i=some (pn kv es i):=by
 intro es
 induction es with
 | nil=>intro i _;rfl
 | cons e es ih=>
  intro i h
  have he:=h e (by simp)
  have S4:=ih (i+1) (fun e he=>h e (by simp[he]))
  unfold Instr.findNow pn
  have hs:Instr.sameNow d kv e.key=some (ot kv e.key):=by
   obtain⟨key,val,born⟩:=e
   rcases hc with⟨k,rfl,rfl⟩|⟨rfl,rfl⟩|⟨rfl,rfl⟩<;>cases kv<;>simp[KK.has]at hk<;>cases key<;>simp[KK.has]at he<;>simp[Instr.sameNow,ot]
   subst hk;subst he;simp
  rw[hs]
  cases ot kv e.key
  ·simp only[S4];rfl
  ·rfl
theorem run_findKey{t:TypeId}{kk:KK}(h:qy P t=some kk){kv:Value}(hk:kk.has kv=true)(es:List MapEntry)(ri:∀ e∈es,kk.has e.key=true)(w:World) :
  (Instr.findKey t kv es).run P w = .ok (pn kv es 0) w:=by
 obtain⟨d,hd,hc⟩:=IB h
 simp[Instr.findKey,run_underlying hd,Ql hc hk es 0 ri]
theorem MO{arr:Array MapEntry}{clock:Nat}{es:List (Value×D)}(hm:xk c w arr clock es){kk:KK}(hk:∀ x∈es,kk.has x.1=true):∀ e∈arr.toList,kk.has e.key=true:=by
 intro e he
 obtain⟨i,hi⟩:=aD.1 he
 have hl:i<es.length:=by rw[← hm.1];have:=(af.1 hi).1;simpa using this
 obtain⟨h1,_⟩:=hm.2.1 i e es[i] (by simpa using hi) (by simp[hl])
 rw[h1]
 exact hk _ (bz hl)
theorem FP(kv:Value):∀ (l:List MapEntry) (es:List (Value×D)) (i:Nat),l.length=es.length →
  (∀ (j:Nat) (e:MapEntry) (x:Value×D),l[j]? = some e→es[j]? = some x→e.key=x.1∧ew c w e.val x.2) →
  (pn kv l i=none∧mz es kv=none∧∀ y,kN es kv y=es ++ [(kv,y)]) ∨
  (∃ j v d,pn kv l i=some (i+j,v)∧mz es kv=some d∧ew c w v d∧j<l.length∧(∀ y,kN es kv y=es.set j (kv,y))∧∃ e,l[j]? = some e∧ot kv e.key=true)
 | [],[],i,_,_=>.inl ⟨rfl,rfl,fun _=>rfl⟩
 | e::l,(k,d)::es,i,hl,h=>by
  obtain⟨hk,hr⟩:=h 0 e (k,d) rfl rfl
  dsimp only at hk hr
  by_cases he:ot kv e.key=true
  ·refine .inr ⟨0,e.val,d,by simp[pn,he],by simp[mz,← hk,he],hr,by simp,fun y=>by simp[kN,← hk,he],e,rfl,he⟩
  ·have ua:ot kv k=false:=by rw[← hk];simpa using he
   rcases FP kv l es (i+1) (by simpa using hl) (fun j e x he hx=>h (j+1) e x (by simpa using he) (by simpa using hx))with⟨h1,h2,h3⟩|⟨j,v,d',h1,h2,h3,h4,h5,e',h6,h7⟩
   ·exact .inl ⟨by simp[pn,he,h1],by simp[mz,ua,h2],fun y=>by simp[kN,ua,h3]⟩
   ·exact .inr ⟨j+1,v,d',by simp[pn,he,h1];omega,by simp[mz,ua,h2],h3,by simp;omega,fun y=>by simp[kN,ua,h5],e',by simpa using h6,h7⟩
theorem YF(h:eP G c H w){t k e:TypeId}{kk:KK}{z:D}(hu:P.underlying t=some (.map k e))(jG:qy P k=some kk)(hz:IH P e=some z)(ok:Bool){m x:D}{u v:Value}(h1:ew c w u m)(h2:ew c w v x)
  (hk:yT kk z ok m x H K):∃ r,(Instr.lookup t u v ok).run P w = .ok r w∧gF G c H w K r w:=by
 have hzero:∃ zv,(zeroValue e).run P w = .ok zv w∧ew c w zv z:=by
  unfold IH at hz
  cases hi:P.info? e with
  | none=>simp[hi]at hz
  | some i=>
   simp only[hi,Option.bind_some]at hz
   cases Hb:i.zero with
   | none=>simp[Hb]at hz
   | some zv=>
    simp only[Hb,Option.bind_some]at hz
    exact⟨zv,by simp[zeroValue,run_typeInfo hi,Hb],Nw hz⟩
 obtain⟨zv,rC,Mf⟩:=hzero
 unfold yT at hk
 split at hk
 ·rename_i v0 kv Gw
  split at hk
  ·rename_i nO es ri
   obtain⟨rfl,ue,hk⟩:=hk
   have hv:=Mu h2 Gw
   subst hv
   cases h1 with
   | fC _ L eD fM=>
    have fF:=h.ob v0 _ (sZ ri)
    simp only[Ob.gen]at fF
    rw[eD]at fF
    simp only[fr]at fF
    obtain⟨_,Dr,arr,clock,hm,lC⟩:=fF
    have Dm:=run_findKey jG ue arr.toList (MO lC Dr) w
    have Dk:=run_checkKey (w:=w) jG arr.isEmpty ue
    have gi:(Instr.lookup t (.map (some L.b)) v ok).run P w=((match pn v arr.toList 0 with
      | some (_,v)=>Result.ok (v,true) w
      | none=>Result.ok (zv,false) w:Result (Value×Bool)).andThen fun p w=>.ok (if ok then .tuple #[p.1,.bool p.2]else p.1) w):=by
     have yh:(getObj L.b).run P w = .ok (.map arr clock) w:=by simp[getObj,Sem.run,hm]
     simp only[Instr.lookup,Sem.run_bind,run_underlying hu,Result.andThen_ok,yh,Sem.run_pure,Dk,Dm]
     cases pn v arr.toList 0 with
     | none=>simp[rC]
     | some p=>obtain⟨_,_⟩:=p;simp
    rcases FP (c:=c) (w:=w) v arr.toList es 0 (by simpa using lC.1) (fun j e x he hx=>let ⟨a,b,_⟩:=lC.2.1 j e x (by simpa using he) hx;⟨a,b⟩)with⟨f1,f2,_⟩|⟨j,val,d,f1,f2,f3,_⟩
    ·rw[f1]at gi
     rw[f2]at hk
     refine⟨_,gi,.plain h hk ?_⟩
     cases ok
     ·exact Mf
     ·exact .tup [zv,.bool false] [z,.val (.bool false)] rfl (fun i v d hv hd=>by
       match i with
       | 0=>simp at hv hd;subst hv;subst hd;exact Mf
       | 1=>simp at hv hd;subst hv;subst hd;exact .val _
       | i+2=>simp at hv)
    ·rw[f1]at gi
     rw[f2]at hk
     refine⟨_,gi,.plain h hk ?_⟩
     cases ok
     ·exact f3
     ·exact .tup [val,.bool true] [d,.val (.bool true)] rfl (fun i v d' hv hd=>by
       match i with
       | 0=>simp at hv hd;subst hv;subst hd;exact f3
       | 1=>simp at hv hd;subst hv;subst hd;exact .val _
       | i+2=>simp at hv)
  ·exact hk.elim
 ·exact hk.elim
theorem ZD{kk:KK}(jG:kk = .str∨kk = .bool∨∃ k,kk = .int k){old new:Value}(h1:kk.has new=true)(h2:kk.has old=true)(h:ot new old=true):Instr.sameBits 10000 old new=true:=by
 rcases jG with rfl|rfl|⟨k,rfl⟩<;>cases new<;>simp[KK.has]at h1<;>cases old<;>simp[KK.has]at h2<;>simp[ot]at h<;>simp[Instr.sameBits]
 ·rename_i x y
  obtain⟨x⟩:=x
  obtain⟨y⟩:=y
  have h':(x == y)=true:=h
  have e:=eq_of_beq h'
  subst e
  exact h
 ·exact h.symm
 ·exact⟨h.1.symm,h.2.symm⟩
theorem z1{G:GT}{c:Ctx}{H:et}{w:World}(h:eP G c H w){v:Nat}{ob ob':Ob}(hv:H[v]? = some ob)(ha:ob.alive=true)(nL:ob'.alive=true)(Dn:ob'.gen=ob.gen){L:Loc}(eD:c.ι v ob.gen=some L)(fM:L.gP=false)(o':Obj)
  (fF:∀ w',w'.heap[L.b]? = some o'→(∀ u d,ew c w u d→ew c w' u d)→fr c w' (some L) ob') :
  eP G c (H.set v ob') { w with heap:=w.heap.setIfInBounds L.b o' }∧Step H.length c H w c (H.set v ob') { w with heap:=w.heap.setIfInBounds L.b o' }:=by
 have fe:=h.lt _ ⟨v,L,⟨ob,hv,ha,eD⟩,fM,rfl⟩
 refine Oi (w':={ w with heap:=w.heap.setIfInBounds L.b o' }) h hv ha nL Dn eD fM ⟨rfl,Nat.le_refl _⟩ rfl rfl (by simp) (fun b hb=>?_) (fF _ (by simp[fe]))
 rw[bt (dg hb)]
theorem T7{es:List (Value×D)}{kv:Value}{y:D}:∀ x∈kN es kv y,x∈es∨x=(kv,y):=by
 induction es with
 | nil=>intro x hx;simp[kN]at hx;exact .inr hx
 | cons e es ih=>
  intro x hx
  obtain⟨k,d⟩:=e
  simp only[kN]at hx
  split at hx
  ·rcases ax.1 hx with rfl|hx
   ·exact .inr rfl
   ·exact .inl (by simp[hx])
  ·rcases ax.1 hx with rfl|hx
   ·exact .inl (by simp)
   ·rcases ih x hx with h|h
    ·exact .inl (by simp[h])
    ·exact .inr h
theorem M6(h:eP G c H w){t k e:TypeId}{kk:KK}(hu:P.underlying t=some (.map k e))(jG:qy P k=some kk){m x y:D}{u v vy:Value}(h1:ew c w u m)(h2:ew c w v x)(h3:ew c w vy y)
  (hk:yY kk m x y H K):∃ w',(Instr.mapUpdate t u v vy).run P w = .ok () w'∧gF G c H w K undef w':=by
 have Sa:kk = .str∨kk = .bool∨∃ k,kk = .int k:=by
  obtain⟨d,_,hc⟩:=IB jG
  rcases hc with⟨k,_,rfl⟩|⟨_,rfl⟩|⟨_,rfl⟩
  ·exact .inr (.inr ⟨k,rfl⟩)
  ·exact .inl rfl
  ·exact .inr (.inl rfl)
 unfold yY at hk
 split at hk
 ·rename_i v0 kv Gw
  split at hk
  ·rename_i nO es ri
   obtain⟨rfl,ue,hk⟩:=hk
   have hv:=Mu h2 Gw
   subst hv
   cases h1 with
   | fC _ L eD fM=>
    have fF:=h.ob v0 _ (sZ ri)
    simp only[Ob.gen]at fF
    rw[eD]at fF
    simp only[fr]at fF
    obtain⟨_,Dr,arr,clock,hm,lC⟩:=fF
    have K3:=MO lC Dr
    have Dm:=run_findKey jG ue arr.toList K3 w
    have Dk:=run_checkKey (w:=w) jG false ue
    have Ln:∀ y',∀ x∈kN es v y',nO.has x.1=true:=fun y' x hx=>by
     rcases T7 x hx with h|rfl
     ·exact Dr x h
     ·exact ue
    rcases FP (c:=c) (w:=w) v arr.toList es 0 (by simpa using lC.1) (fun j e x he hx=>let ⟨a,b,_⟩:=lC.2.1 j e x (by simpa using he) hx;⟨a,b⟩)with⟨f1,f2,f3⟩|⟨j,val,d,f1,f2,_,f4,f5,e',f6,f7⟩
    ·have gi:(Instr.mapUpdate t (.map (some L.b)) v vy).run P w = .ok () { w with heap:=w.heap.setIfInBounds L.b (.map (arr.push { key:=v,val:=vy,born:=clock }) (clock+1)) }:=by
      have yh:(getObj L.b).run P w = .ok (.map arr clock) w:=by simp[getObj,Sem.run,hm]
      simp only[Instr.mapUpdate,Sem.run_bind,run_underlying hu,Result.andThen_ok,yh,Dk,Dm,f1]
      simp[setObj,Sem.run,hm]
     obtain⟨m1,m2⟩:=z1 h (sZ ri) rfl rfl rfl eD fM (.map (arr.push { key:=v,val:=vy,born:=clock }) (clock+1)) (ob':=.map nO (kN es v y)) (by
      intro w' pF hr
      simp only[fr]
      refine⟨fM,Ln y,_,_,pF,?_⟩
      rw[f3]
      refine⟨by simp[lC.1],fun i e x he hx=>?_,by simp[lC.2.2]⟩
      rw[Array.getElem?_push]at he
      split at he
      ·rename_i hi
       cases he
       rw[aj (by rw[hi,lC.1];exact Nat.le_refl _),hi,lC.1]at hx
       simp at hx
       subst hx
       exact⟨rfl,hr _ _ h3,by rw[hi,lC.1,lC.2.2]⟩
      ·have hi:i<es.length:=by rw[← lC.1];exact(aI.1 he).1
       rw[ag hi]at hx
       obtain⟨p,q,r⟩:=lC.2.1 i e x he hx
       exact⟨p,hr _ _ q,r⟩)
     exact⟨_,gi,.any,_,c,hk,m1,.any _,m2⟩
    ·have l9:j<arr.size:=by simpa using f4
     have ui:arr[j]? = some e':=by simpa using f6
     have RE:nO.has e'.key=true:=K3 e' (aY f6)
     have Sn:(Instr.keyThatStays e'.key v).run P w = .ok v w:=by
      simp[Instr.keyThatStays,ZD Sa ue RE f7]
     have gi:(Instr.mapUpdate t (.map (some L.b)) v vy).run P w = .ok () { w with heap:=w.heap.setIfInBounds L.b (.map (arr.modify j fun e=>{ e with key:=v,val:=vy }) clock) }:=by
      have yh:(getObj L.b).run P w = .ok (.map arr clock) w:=by simp[getObj,Sem.run,hm]
      simp only[Instr.mapUpdate,Sem.run_bind,run_underlying hu,Result.andThen_ok,yh,Dk,Dm,f1,aX,ui,a8,aR,Sn]
      simp[setObj,Sem.run,hm]
     obtain⟨m1,m2⟩:=z1 h (sZ ri) rfl rfl rfl eD fM (.map (arr.modify j fun e=>{ e with key:=v,val:=vy }) clock) (ob':=.map nO (kN es v y)) (by
      intro w' pF hr
      simp only[fr]
      refine⟨fM,Ln y,_,_,pF,?_⟩
      rw[f5]
      refine⟨by simp[lC.1],fun i e x he hx=>?_,by simp[lC.2.2]⟩
      ·rw[bC]at he
       rw[bH]at hx
       split at he
       ·rename_i hi
        subst hi
        rw[if_pos rfl]at hx
        simp only[ai]at he
        obtain⟨e0,h0,rfl⟩:=he
        split at hx
        ·cases hx
         have hj:j<es.length:=by rw[← lC.1];exact l9
         exact⟨rfl,hr _ _ h3,(lC.2.1 j e0 es[j] h0 (by simp[hj])).2.2⟩
        ·cases hx
       ·rename_i hi
        rw[if_neg hi]at hx
        obtain⟨p,q,r⟩:=lC.2.1 i e x he hx
        exact⟨p,hr _ _ q,r⟩)
     exact⟨_,gi,.any,_,c,hk,m1,.any _,m2⟩
  ·exact hk.elim
 ·exact hk.elim
end
end Go.AL
namespace Go.AL
open Go
section
variable{P:Program}{G:GT}{c:Ctx}{H:et}{w:World}{K:gQ}{env:fg}{a:Act}
theorem TH{t:TypeId}{l:lH}(hl:uE P t=some l)(d:Nat){x y:D}{u v:Value}(h1:ew c w u x)(h2:ew c w v y){r:Bool}(h:pg l x y=some r):(Op.equalIn (d+1) t u v).run P w = .ok r w:=by
 unfold pg at h
 split at h
 ·rename_i k m k' n
  cases h1;cases h2
  split at h
  ·rename_i e
   subst e
   cases h
   unfold uE at hl
   split at hl
   ·rename_i k0 hu;exact run_equalIn_int w d t k k0 m n hu
   ·cases hl
   ·cases hl
   ·cases hl
  ·cases h
 ·cases h1;cases h2
  cases h
  unfold uE at hl
  split at hl
  ·cases hl
  ·cases hl
  ·rename_i hu;exact run_equalIn_bool' w d t _ _ hu
  ·cases hl
 ·cases h1;cases h2
  cases h
  rename_i p q
  unfold uE at hl
  split at hl
  ·cases hl
  ·rename_i hu
   have:=run_equalIn_string (P:=P) w d t p q hu
   rw[ByteArray.toList_eq,ByteArray.toList_eq]at this
   exact this
  ·cases hl
  ·cases hl
 ·cases h
theorem TG{t:TypeId}{l:lH}(hl:uE P t=some l):lZ P t=some false:=by
 unfold uE at hl
 unfold lZ
 split at hl<;>first|(rename_i hu;simp[hu])|(rename_i k hu;simp[hu])|cases hl
theorem Ku(d:Nat){vs us:List Value}{xs ys:List D}(hx:Cells c w vs xs)(hy:Cells c w us ys):∀ (fs:List Field) (i:Nat) (ls:List lH) (r:Bool),CW P i fs=some ls→lu ls (xs.drop i) (ys.drop i)=some r →
  (Op.eqFields (d+1) vs.toArray us.toArray fs).run P w = .ok r w
 | [],i,ls,r,he,hc=>by
  cases he
  unfold lu at hc
  split at hc
  ·cases hc;rfl
  ·rename_i heq _ _;cases heq
  ·cases hc
 | f::fs,i,ls,r,he,hc=>by
  simp only[CW]at he
  split at he
  ·rename_i l TZ hl yl
   split at he
   ·rename_i gJ
    obtain⟨LB,RX⟩:=gJ
    cases he
    cases yD:xs.drop i with
    | nil=>rw[yD]at hc;simp[lu]at hc
    | cons x xr=>
     cases DJ:ys.drop i with
     | nil=>rw[yD,DJ]at hc;simp[lu]at hc
     | cons y yr=>
      rw[yD,DJ]at hc
      simp only[lu]at hc
      split at hc
      ·rename_i p q hp hq
       cases hc
       have SG:xs[i]? = some x:=by have:=congrArg (·[0]?) yD;simpa using this
       have SN:ys[i]? = some y:=by have:=congrArg (·[0]?) DJ;simpa using this
       have SI:xs.drop (i+1)=xr:=by rw[← cS,yD];rfl
       have SQ:ys.drop (i+1)=yr:=by rw[← cS,DJ];rfl
       obtain⟨u,hu,_,Sw⟩:=hx.get SG
       obtain⟨v,hv,_,G8⟩:=hy.get SN
       have ih:=Ku d hx hy fs (i+1) TZ q yl (by rw[SI,SQ];exact hq)
       have hle:=TH (w:=w) hl d Sw G8 hp
       have ha:=zD (TG hl) w
       have uw:(part f.type vs.toArray f.offset).run P w = .ok u w:=by simp[part,ha,LB,hu]
       have qq:(part f.type us.toArray f.offset).run P w = .ok v w:=by simp[part,ha,LB,hv]
       simp only[Op.eqFields,if_pos RX,Sem.run_bind,uw,qq,Result.andThen_ok,hle,Sem.run_ite,ih]
       cases p<;>simp
      ·cases hc
   ·cases he
  ·cases he
theorem M5(h:eP G c H w){t:TypeId}{ls:List lH}(ht:CX P t=some ls)(neg:Bool){x y:D}{u v:Value}(h1:ew c w u x)(h2:ew c w v y)(hk:sy true ls neg x y H K)(xo yo:Operand) :
  ∃ r,(do eqGuard (if neg then .neq else .eql) t xo yo u v;binOp (if neg then .neq else .eql) t u v).run P w = .ok r w∧gF G c H w K r w:=by
 unfold CX at ht
 split at ht
 ·rename_i fs hu
  split at ht
  ·rename_i gJ
   have hf:P.underlying t=some (.struct (P.fieldsOf t)):=by unfold Program.fieldsOf;rw[hu]
   have Rr:P.fieldsOf t=fs:=by unfold Program.fieldsOf;rw[hu]
   have hx:∃ cs ds,x = .agg cs∧y = .agg ds:=by
    unfold sy at hk
    split at hk
    ·exact⟨_,_,rfl,rfl⟩
    ·contradiction
    ·exact hk.elim
   obtain⟨cs,ds,rfl,rfl⟩:=hx
   simp only[sy]at hk
   split at hk
   ·rename_i r hr
    cases h1 with
    | agg vs _ iP x4 QE=>
     cases h2 with
     | agg us _ il QG QH=>
      have Rk:Cells c w vs cs:=⟨iP,x4,QE⟩
      have Rl:Cells c w us ds:=⟨il,QG,QH⟩
      have gi:=Ku (P:=P) 9998 Rk Rl fs.toList 0 ls r ht (by simpa using hr)
      have heq:(Op.equalIn 10000 t (.agg vs.toArray) (.agg us.toArray)).run P w = .ok r w:=by
       rw[run_equalIn_struct w 9999 t vs.toArray us.toArray hf gJ.1,Rr]
       exact gi
      cases neg
      ·simp only[bw,if_false,Sem.run_bind,run_eqGuard_agg w .eql t xo yo vs.toArray us.toArray gJ.2,Result.andThen_ok,run_eql_struct,heq]
       exact⟨_,rfl,.val h (by simpa using hk)⟩
      ·simp only[if_true,Sem.run_bind,run_eqGuard_agg w .neq t xo yo vs.toArray us.toArray gJ.2,Result.andThen_ok,run_neq_struct,heq]
       exact⟨_,rfl,.val h (by simpa using hk)⟩
   ·exact hk.elim
  ·cases ht
 ·cases ht
theorem M4(h:eP G c H w){t:TypeId}(hu:P.underlying t=some .bool)(neg:Bool){x y:D}{u v:Value}(h1:ew c w u x)(h2:ew c w v y)(hk:sy false [.bool] neg x y H K)(xo yo:Operand) :
  ∃ r,(do eqGuard (if neg then .neq else .eql) t xo yo u v;binOp (if neg then .neq else .eql) t u v).run P w = .ok r w∧gF G c H w K r w:=by
 simp only[sy]at hk
 split at hk
 ·rename_i r hr
  simp only[lu]at hr
  split at hr
  ·rename_i p q hp hq
   cases hq
   cases hr
   unfold pg at hp
   split at hp
   ·contradiction
   ·cases h1;cases h2
    cases hp
    rename_i b b' _
    have heq:=run_equalIn_bool' (P:=P) w 9999 t b b' hu
    have fL:Op.equal t (.bool b) (.bool b')=Op.equalIn 10000 t (.bool b) (.bool b'):=rfl
    cases neg
    ·exact⟨_,by simp[eqGuard,binOp,fL,heq]<;>rfl,.val h (by simpa using hk)⟩
    ·exact⟨_,by simp[eqGuard,binOp,fL,heq]<;>rfl,.val h (by simpa using hk)⟩
   ·contradiction
   ·cases hp
  ·cases hr
 ·exact hk.elim
theorem Ez{f:FuncId}(h:nI P f=true)(args:Array Value)(w:World):(callFunc f args).run P w = .ok (.enter f args) w:=by
 unfold nI at h
 split at h
 ·rename_i fn hf
  simp only[ah,bne_iff_ne,ne_eq]at h
  have hb:fn.body.isNone=false:=by cases hb:fn.body<;>simp[hb]at h ⊢
  simp[callFunc,hf,h.1]
  intro e
  rw[e]at hb
  cases hb
 ·cases h
end
end Go.AL
namespace Go.AL
open Go
section
variable{P:Program}{G:GT}{c:Ctx}{H:et}{w:World}{K:gQ}{env:fg}{a:Act}
def vo(r:Result Next)(v:Value)(w':World):Prop:=r = .ok (.value v) w'∨(r = .ok .skip w'∧v=undef)
theorem gX{s:Sem Value}{v:Value}{w':World}(h:s.run P w = .ok v w'):vo ((do pure (.value (← s)):Sem Next).run P w) v w':=.inl (by simp[h])
theorem E3{s:Sem Unit}{w':World}(h:s.run P w = .ok () w'):vo ((do s;pure .skip:Sem Next).run P w) undef w':=.inr ⟨by simp[h],rfl⟩
theorem Yo(h:eP G c H w){s d:TypeId}{sd:TypeDesc}{k:IntKind}(hs:P.underlying s=some sd)(hd:P.underlying d=some (.int k)){x:D}{u:Value}(h1:ew c w u x)
  (hk:xL k x H K):∃ r,(convert s d u).run P w = .ok r w∧gF G c H w K r w:=by
 unfold xL at hk
 split at hk
 ·rename_i k' n
  cases h1
  have Gt:P.intKind d=k:=by simp[Program.intKind,hd]
  have:=run_convert_int (P:=P) w s d k' n (by rw[hs];rfl) (by rw[Gt];exact hd)
  rw[Gt]at this
  exact⟨_,this,.val h hk⟩
 ·exact hk.elim
theorem YK(h:eP G c H w){o:Oper}{x:Operand}(ho:o.op = .nilCheck x){d:D}(h1:ew c w (a.eval x) d)
  (hk:za d H K):∃ v w',vo ((execOp a.eval o).run P w) v w'∧gF G c H w K v w':=by
 have key:∀ v,a.eval x=v→(match v with | .pointer (some _)=>True | .func (.func _) _ _=>True | .func (.yield _) _ _=>True|_=>False)→vo ((execOp a.eval o).run P w) v w:=by
  intro v hv hm
  refine .inl ?_
  simp only[execOp,ho,hv]
  split at hm<;>simp_all
 generalize hv:a.eval x=v at h1
 unfold za at hk
 split at hk
 ·cases h1 with
  | ptr _ _ _ L eD jW=>exact⟨_,w,key _ hv trivial,.plain h hk (.ptr _ _ _ L eD jW)⟩
 ·obtain⟨b,p,e,hF,hc⟩:=tC h1
  subst e
  exact⟨_,w,key _ hv trivial,.plain h hk h1⟩
 ·cases h1 with
  | fn f fs cs df dc e1 e2 e3 e4=>exact⟨_,w,key _ hv trivial,.plain h hk (.fn _ fs cs _ _ e1 e2 e3 e4)⟩
 ·cases h1 with
  | gy _ L eD jW=>exact⟨_,w,key _ hv trivial,.plain h hk (.gy _ L eD jW)⟩
 ·exact hk.elim
theorem H7{l:Array Operand}{xs:List D}(h:gG c w (l.toList.map a.eval) xs):∃ vs:List Value,l.map a.eval=vs.toArray∧gG c w vs xs:=
 ⟨_,by cases l;simp,h⟩
theorem qH{o:Oper}{cl:Call}(ho:o.op = .call cl){b:Builtin}(hb:cl.callee = .builtin b):(execOp a.eval o).run P w=(builtin b cl.argTypes o.type (cl.args.map fun | .const _=>true|_=>false) (cl.args.map a.eval)).run P w:=by
 simp only[execOp,ho,resolve,hb,Sem.run_bind,Sem.run_pure,Result.andThen_ok,invoke]
 rfl
theorem Nl(h:eP G c H w)(he:iS c w env a){al:Al}(fu:j' H al){o:Oper}{io:fY}(hc:ko P G o=some io)(hk:xp env H al K io) :
  ∃ v w',vo ((execOp a.eval o).run P w) v w'∧gF G c H w K v w':=by
 unfold ko at hc
 cases ho:o.op with
 | move x=>
  simp only[ho,au,ae,aF,aq]at hc
  obtain⟨X,hX,rfl⟩:=hc
  exact⟨_,w,.inl (by simp only[execOp,ho];rfl),.plain h hk (gb h he hX)⟩
 | assign x=>
  simp only[ho,au,ae,aF,aq]at hc
  obtain⟨X,hX,rfl⟩:=hc
  exact⟨_,w,.inl (by simp only[execOp,ho];rfl),.plain h hk (gb h he hX)⟩
 | pick x y z=>
  simp only[ho,au,ae,aF,aq]at hc
  obtain⟨X,hX,Y,hY,Z,hZ,rfl⟩:=hc
  obtain⟨b,hb,hp⟩:=YL h (gb h he hX) (gb h he hY) (gb h he hZ) hk
  exact⟨_,w,.inl (by simp[execOp,ho,hb];rfl),hp⟩
 | box e x=>
  simp only[ho,au,ae,aF,aq]at hc
  obtain⟨X,hX,rfl⟩:=hc
  obtain⟨r,w',hr,hp⟩:=Yh (P:=P) h fu e (gb h he hX) hk
  exact⟨r,w',by simp only[execOp,ho];exact gX hr,hp⟩
 | alloc e=>
  simp only[ho,au,ae,aF,aq]at hc
  obtain⟨z,hz,rfl⟩:=hc
  obtain⟨r,w',hr,hp⟩:=Ya (P:=P) h fu hz hk
  exact⟨r,w',by simp only[execOp,ho];exact gX hr,hp⟩
 | build t ps=>
  simp only[ho,au,ae]at hc
  obtain⟨z,hz,l,hl,hc⟩:=hc
  split at hc
  ·rename_i fs hu
   split at hc
   ·rename_i hf
    simp only[ae,aF,aq]at hc
    obtain⟨qs,hq,rfl⟩:=hc
    obtain⟨r,hr,hp⟩:=Yi h he hz hl hu hf hq hk
    exact⟨r,w,by simp only[execOp,ho];exact gX hr,hp⟩
   ·cases hc
  ·rename_i n e hu
   simp only[ae,aF,aq]at hc
   obtain⟨sz,hs,rfl⟩:=hc
   obtain⟨r,hr,hp⟩:=Yj h he hz hl hu hs hk
   exact⟨r,w,by simp only[execOp,ho];exact gX hr,hp⟩
  ·cases hc
 | buildSlice t n ps=>
  simp only[ho,au,ae]at hc
  obtain⟨td,hu,hc⟩:=hc
  split at hc
  ·rename_i e
   simp only[ae]at hc
   obtain⟨z,hz,sz,hs,l,hl,hc⟩:=hc
   split at hc
   ·rename_i gJ
    cases hc
    obtain⟨r,w',hr,hp⟩:=Yk (P:=P) h fu he hu hz hs hl gJ.1 gJ.2.1 gJ.2.2 hk
    exact⟨r,w',by simp only[execOp,ho];exact gX hr,hp⟩
   ·cases hc
  ·cases hc
 | load t x=>
  simp only[ho,au,ae]at hc
  obtain⟨X,hX,n,hn,b,hb,hc⟩:=hc
  cases b
  ·cases hc
   obtain⟨v,hv,hp⟩:=YD h hb (gb h he hX) hk
   exact⟨v,w,by simp only[execOp,ho];exact gX hv,hp⟩
  ·cases hc
   obtain⟨v,hv,hp⟩:=YE h hb hn (gb h he hX) hk
   exact⟨v,w,by simp only[execOp,ho];exact gX hv,hp⟩
 | store t x y=>
  simp only[ho,au,ae]at hc
  obtain⟨X,hX,Y,hY,n,hn,b,hb,hc⟩:=hc
  cases b
  ·simp only[bw,if_false]at hc
   split at hc
   ·rename_i e
    subst e
    cases hc
    obtain⟨w',hv,hp⟩:=YP h hn (gb h he hX) (gb h he hY) hk
    exact⟨_,w',by simp only[execOp,ho];exact E3 hv,hp⟩
   ·cases hc
  ·cases hc
   obtain⟨w',hv,hp⟩:=YQ h hn (gb h he hX) (gb h he hY) hk
   exact⟨_,w',by simp only[execOp,ho];exact E3 hv,hp⟩
 | nilCheck x=>
  simp only[ho,au,ae,aF,aq]at hc
  obtain⟨X,hX,rfl⟩:=hc
  exact YK h ho (gb h he hX) hk
 | binOp op t x y yt=>
  simp only[ho,au,ae]at hc
  obtain⟨X,hX,Y,hY,hc⟩:=hc
  have r1:=gb h he hX
  have r2:=gb h he hY
  split at hc
  ·split at hc
   ·rename_i hb
    cases hc
    obtain⟨v,hv,hp⟩:=M4 (P:=P) h (by unfold Cq at hb;split at hb<;>first|assumption|cases hb) false r1 r2 hk x y
    exact⟨v,w,by simp only[execOp,ho];exact gX hv,hp⟩
   ·split at hc
    ·cases hc
     obtain⟨v,hv,hp⟩:=HP (P:=P) h r1 r2 hk t x y
     exact⟨v,w,by simp only[execOp,ho];exact gX hv,hp⟩
    ·simp only[ae,aF,aq]at hc
     obtain⟨ls,yl,rfl⟩:=hc
     obtain⟨v,hv,hp⟩:=M5 (P:=P) h yl false r1 r2 hk x y
     exact⟨v,w,by simp only[execOp,ho];exact gX hv,hp⟩
  ·split at hc
   ·rename_i hb
    cases hc
    obtain⟨v,hv,hp⟩:=M4 (P:=P) h (by unfold Cq at hb;split at hb<;>first|assumption|cases hb) true r1 r2 hk x y
    exact⟨v,w,by simp only[execOp,ho];exact gX hv,hp⟩
   ·split at hc
    ·cases hc
     obtain⟨v,hv,hp⟩:=HP (P:=P) h r1 r2 hk t x y
     exact⟨v,w,by simp only[execOp,ho];exact gX hv,hp⟩
    ·simp only[ae,aF,aq]at hc
     obtain⟨ls,yl,rfl⟩:=hc
     obtain⟨v,hv,hp⟩:=M5 (P:=P) h yl true r1 r2 hk x y
     exact⟨v,w,by simp only[execOp,ho];exact gX hv,hp⟩
  ·cases hc
   obtain⟨v,hv,hp⟩:=HP (P:=P) h r1 r2 hk t x y
   exact⟨v,w,by simp only[execOp,ho];exact gX hv,hp⟩
 | unOp op t x=>
  simp only[ho,au,ae,aF,aq]at hc
  obtain⟨X,hX,rfl⟩:=hc
  obtain⟨v,hv,hp⟩:=YR (P:=P) h (gb h he hX) hk
  exact⟨v,w,by simp only[execOp,ho];exact gX hv,hp⟩
 | convert s d x=>
  simp only[ho,au,ae]at hc
  obtain⟨X,hX,sd,hs,hc⟩:=hc
  split at hc
  ·rename_i k hd
   cases hc
   obtain⟨v,hv,hp⟩:=Yo (P:=P) h hs hd (gb h he hX) hk
   exact⟨v,w,by simp only[execOp,ho];exact gX hv,hp⟩
  ·rename_i hd
   simp only[ae]at hc
   obtain⟨sd2,kK,hc⟩:=hc
   split at hc
   ·rename_i e
    simp only[ae]at hc
    obtain⟨ed,Gp,hc⟩:=hc
    split at hc
    ·cases hc
     obtain⟨v,hv,hp⟩:=Yf (P:=P) h kK Gp hd (gb h he hX) hk
     exact⟨v,w,by simp only[execOp,ho];exact gX hv,hp⟩
    ·cases hc
   ·cases hc
  ·cases hc
 | makeFunc f first cap=>
  simp only[ho,au,ae,aF,aq]at hc
  obtain⟨X,hX,Y,hY,rfl⟩:=hc
  exact⟨_,w,.inl (by simp[execOp,ho,Instr.makeFunc]),YG h he hX hY hk⟩
 | makeMap t r=>
  cases r with
  | some r=>simp[ho]at hc
  | none=>
   simp only[ho,au,ae]at hc
   obtain⟨td,hu,hc⟩:=hc
   split at hc
   ·simp only[ae,aF,aq]at hc
    obtain⟨kk,jG,rfl⟩:=hc
    obtain⟨v,w',hv,hp⟩:=YH (P:=P) h fu t kk hk
    exact⟨v,w',by simp only[execOp,ho];exact gX hv,hp⟩
   ·cases hc
 | lookup t x i ok=>
  simp only[ho,au,ae]at hc
  obtain⟨td,hu,hc⟩:=hc
  split at hc
  ·simp only[ae,aF,aq]at hc
   obtain⟨z,hz,kk,jG,X,hX,Y,hY,rfl⟩:=hc
   obtain⟨v,hv,hp⟩:=YF (P:=P) h hu jG hz ok (gb h he hX) (gb h he hY) hk
   exact⟨v,w,by simp only[execOp,ho];exact gX hv,hp⟩
  ·cases hc
 | mapUpdate t m k x=>
  simp only[ho,au,ae]at hc
  obtain⟨td,hu,hc⟩:=hc
  split at hc
  ·simp only[ae,aF,aq]at hc
   obtain⟨kk,jG,X,hX,Y,hY,Z,hZ,rfl⟩:=hc
   obtain⟨w',hv,hp⟩:=M6 (P:=P) h hu jG (gb h he hX) (gb h he hY) (gb h he hZ) hk
   exact⟨_,w',by simp only[execOp,ho];exact E3 hv,hp⟩
  ·cases hc
 | insert t m k x=>
  simp only[ho,au,ae]at hc
  obtain⟨td,hu,hc⟩:=hc
  split at hc
  ·simp only[ae,aF,aq]at hc
   obtain⟨kk,jG,X,hX,Y,hY,Z,hZ,rfl⟩:=hc
   obtain⟨w',hv,hp⟩:=M6 (P:=P) h hu jG (gb h he hX) (gb h he hY) (gb h he hZ) hk
   exact⟨_,w',by simp only[execOp,ho];exact E3 hv,hp⟩
  ·cases hc
 | makeSlice t l m=>
  simp only[ho,au,ae]at hc
  obtain⟨td,hu,hc⟩:=hc
  split at hc
  ·simp only[ae]at hc
   obtain⟨z,hz,i,hi,hc⟩:=hc
   split at hc
   ·rename_i gJ
    simp only[ae,aF,aq]at hc
    obtain⟨X,hX,Y,hY,rfl⟩:=hc
    obtain⟨v,w',hv,hp⟩:=YI (P:=P) h fu hu hi hz gJ.1 gJ.2 (gb h he hX) (gb h he hY) hk
    exact⟨_,w',by simp only[execOp,ho];exact gX hv,hp⟩
   ·cases hc
  ·cases hc
 | slice t x lo hi mx=>
  cases mx with
  | some r=>simp[ho]at hc
  | none=>
   simp only[ho,au,ae]at hc
   obtain⟨X,hX,L,hL,M,hM,hc⟩:=hc
   have r1:=gb h he hX
   split at hc
   ·rename_i e hu
    simp only[ae,aF,aq]at hc
    obtain⟨n,hn,rfl⟩:=hc
    obtain⟨v,hv,hp⟩:=YN (P:=P) h he hu hn hL hM r1 hk
    exact⟨v,w,by simp only[execOp,ho];exact gX hv,hp⟩
   ·rename_i hu
    cases hc
    have hs:∃ s,ev env X = .val (.string s):=by
     simp only[xp]at hk
     unfold wL at hk
     split at hk
     ·rename_i s e;exact⟨s,e⟩
     ·exact hk.elim
    obtain⟨s,hs⟩:=hs
    simp only[xp]at hk
    rw[hs]at hk r1
    have Mb:a.eval x = .string s:=by
     generalize a.eval x=u at r1
     cases r1;rfl
    obtain⟨v,hv,hp⟩:=YO (P:=P) h he hu hL hM hk
    exact⟨v,w,by simp only[execOp,ho,Mb];exact gX hv,hp⟩
   ·cases hc
 | fieldAddr t x f=>
  simp only[ho,au,ae]at hc
  obtain⟨X,hX,td,hu,hc⟩:=hc
  split at hc
  ·simp only[ae]at hc
   obtain⟨fd,hf,n,hn,hc⟩:=hc
   split at hc
   ·rename_i iy
    cases hc
    obtain⟨v,hv,hp⟩:=Yx (P:=P) h hu hf hn iy (gb h he hX) hk
    exact⟨v,w,by simp only[execOp,ho];exact gX hv,hp⟩
   ·cases hc
  ·cases hc
 | field t x f=>
  simp only[ho,au,ae]at hc
  obtain⟨X,hX,td,hu,hc⟩:=hc
  split at hc
  ·simp only[ae,aF,aq]at hc
   obtain⟨fd,hf,n,hn,b,hb,rfl⟩:=hc
   obtain⟨v,hv,hp⟩:=Yw (P:=P) h hu hf hb hn (gb h he hX) hk
   exact⟨v,w,by simp only[execOp,ho];exact gX hv,hp⟩
  ·cases hc
 | indexAddr t x i=>
  simp only[ho,au,ae]at hc
  obtain⟨X,hX,Y,hY,hc⟩:=hc
  split at hc
  ·rename_i e hu
   simp only[ae]at hc
   obtain⟨n,hn,hc⟩:=hc
   split at hc
   ·rename_i iy
    cases hc
    obtain⟨v,hv,hp⟩:=YA (P:=P) h hu hn iy (gb h he hX) (gb h he hY) hk
    exact⟨v,w,by simp only[execOp,ho];exact gX hv,hp⟩
   ·cases hc
  ·rename_i m e hu
   simp only[ae,aF,aq]at hc
   obtain⟨n,hn,rfl⟩:=hc
   obtain⟨v,hv,hp⟩:=YB (P:=P) h hu hn (gb h he hX) (gb h he hY) hk
   exact⟨v,w,by simp only[execOp,ho];exact gX hv,hp⟩
  ·cases hc
 | index t x i=>
  simp only[ho,au,ae]at hc
  obtain⟨X,hX,Y,hY,hc⟩:=hc
  split at hc
  ·rename_i m e hu
   simp only[ae,aF,aq]at hc
   obtain⟨n,hn,b,hb,rfl⟩:=hc
   obtain⟨v,hv,hp⟩:=Yy (P:=P) h hu hn hb (gb h he hX) (gb h he hY) hk
   exact⟨v,w,by simp only[execOp,ho];exact gX hv,hp⟩
  ·rename_i hu
   cases hc
   obtain⟨v,hv,hp⟩:=YC (P:=P) h hu (gb h he hX) (gb h he hY) hk
   exact⟨v,w,by simp only[execOp,ho];exact gX hv,hp⟩
  ·cases hc
 | extract x i=>
  simp only[ho,au,ae,aF,aq]at hc
  obtain⟨X,hX,rfl⟩:=hc
  obtain⟨v,hv,hp⟩:=Yu (P:=P) h (gb h he hX) hk
  exact⟨v,w,by simp only[execOp,ho];exact gX hv,hp⟩
 | call cl=>
  simp only[ho,au,ae]at hc
  obtain⟨args,n9,hc⟩:=hc
  have gC:=tA h he cl.args.toList n9
  split at hc
  ·split at hc
   ·cases hc;split at hk<;>exact(show False from hk).elim
   ·cases hc
  ·simp only[ae,aF,aq]at hc
   obtain⟨X,hX,rfl⟩:=hc
   exact(show False from hk).elim
  ·rename_i gU
   split at hc
   ·rename_i t u x y ky
    have oa:cl.argTypes = #[t,u]:=by rw[← bx (xs:=cl.argTypes),ky]
    obtain⟨vs,iE,gC⟩:=H7 gC
    simp only[List.map_cons,List.map_nil]at gC
    cases gC with|cons r1 gC=>cases gC with|cons r2 gC=>cases gC with|nil=>
    simp only[ae]at hc
    obtain⟨td,hu,hc⟩:=hc
    split at hc
    ·simp only[ae]at hc
     obtain⟨i,hi,z,hz,ud,L8,hc⟩:=hc
     split at hc
     ·split at hc
      ·rename_i gJ
       cases hc
       obtain⟨v,w',hv,hp⟩:=Yb (P:=P) (ty:=o.type) h fu hu ⟨_,L8⟩ hi hz gJ.1 gJ.2 r1 r2 hk
       exact⟨v,w',by rw[qH ho gU,iE,oa];exact gX hv,hp⟩
      ·cases hc
     ·cases hc
    ·cases hc
   ·cases hc
  ·rename_i gU
   split at hc
   ·rename_i t u x y ky
    have oa:cl.argTypes = #[t,u]:=by rw[← bx (xs:=cl.argTypes),ky]
    obtain⟨vs,iE,gC⟩:=H7 gC
    simp only[List.map_cons,List.map_nil]at gC
    cases gC with|cons r1 gC=>cases gC with|cons r2 gC=>cases gC with|nil=>
    simp only[ae]at hc
    obtain⟨td,hu,hc⟩:=hc
    split at hc
    ·simp only[ae]at hc
     obtain⟨ud,L8,hc⟩:=hc
     split at hc
     ·simp only[ae]at hc
      obtain⟨n,hn,hc⟩:=hc
      split at hc
      ·rename_i iy
       cases hc
       obtain⟨v,w',hv,hp⟩:=Yp (P:=P) (u:=u) (ty:=o.type) h hu hn iy r1 r2 hk
       exact⟨v,w',by rw[qH ho gU,iE,oa];exact gX hv,hp⟩
      ·cases hc
     ·cases hc
    ·cases hc
   ·cases hc
  ·rename_i gU
   split at hc
   ·rename_i t x ky
    have oa:cl.argTypes = #[t]:=by rw[← bx (xs:=cl.argTypes),ky]
    obtain⟨vs,iE,gC⟩:=H7 gC
    simp only[List.map_cons,List.map_nil]at gC
    cases gC with|cons r1 gC=>cases gC with|nil=>
    split at hc
    ·rename_i e hu
     cases hc
     obtain⟨v,hv,hp⟩:=HQ (P:=P) (ty:=o.type) (k:=.slice) h hu ⟨e,rfl⟩ r1 hk
     exact⟨v,w,by rw[qH ho gU,iE,oa];exact gX hv,hp⟩
    ·rename_i hu
     cases hc
     obtain⟨v,hv,hp⟩:=HQ (P:=P) (ty:=o.type) (k:=.string) h hu rfl r1 hk
     exact⟨v,w,by rw[qH ho gU,iE,oa];exact gX hv,hp⟩
    ·rename_i k e hu
     cases hc
     obtain⟨v,hv,hp⟩:=HQ (P:=P) (ty:=o.type) (k:=.map) h hu ⟨k,e,rfl⟩ r1 hk
     exact⟨v,w,by rw[qH ho gU,iE,oa];exact gX hv,hp⟩
    ·cases hc
   ·cases hc
  ·rename_i gU
   cases hc
   obtain⟨v,hv,hp⟩:=M7 (P:=P) h he n9 true cl.argTypes o.type hk
   exact⟨v,w,by rw[qH ho gU];exact gX (by simpa using hv),hp⟩
  ·rename_i gU
   cases hc
   obtain⟨v,hv,hp⟩:=M7 (P:=P) h he n9 false cl.argTypes o.type hk
   exact⟨v,w,by rw[qH ho gU];exact gX (by simpa using hv),hp⟩
  ·cases hc
 | _=>simp[ho]at hc
