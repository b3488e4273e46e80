/- 2 -/
import Derived.Test.YtnaefnajkaohgaaGreatDoorH01
set_option linter.all false
namespace Go.AL
open Go
section
variable{P:Program}{G:GT}{c:Ctx}{H:U}{w:World}{K:iO}{env:fQ}{a:Act}
def aeV(h:e9 G c H w){t e:TypeId}{sz n:Nat}(hu:P.underlying t=some (.array n e))(hs:jL P e=some sz){x i:D}{u v:Value}(h1:eJ c w u x)(h2:eJ c w v i)(hk:Ct sz n x i H K) :
  ∃ r,(Instr.indexAt t u v).run P w = .ok r w∧iv G c H w K r w:=by
 have ig:∀ (ad:Addr) (k:IntKind) (m:Int),0≤m∧m<n→(Instr.indexAt t (.pointer (some ad)) (.int k m)).run P w = .ok (.pointer (some (ad.add (m.toNat*sz)))) w:=fun ad k m hm=>by
  simp only[Instr.indexAt,Sem.run_bind,asIntOf,Sem.run_pure,Result.andThen_ok,run_underlying hu,qz hs,Sem.run_ite,Instr.sureAddr]
  rw[if_pos hm]
 unfold Ct at hk
 split at hk
 ·rename_i v0 g0 o k m
  obtain⟨hm,hk⟩:=hk
  cases h2
  cases h1 with
  | ptr _ _ _ L eR hv=>
   refine⟨_,ig _ k m hm,.plain h hk ?_⟩
   rw[Addr.add_lit,a7]
   exact .ptr _ _ _ L eR hv
 ·rename_i cs k m
  obtain⟨hm,hk⟩:=hk
  cases h2
  obtain⟨b,p,rfl,hF,hc⟩:=w9 h1
  refine⟨_,ig _ k m hm,.plain h hk ?_⟩
  rw[Addr.add_lit]
  exact Kr hF (hc.drop _)
 ·exact hk.elim
def aeT(h:e9 G c H w){t e:TypeId}{sz n:Nat}{b:Bool}(hu:P.underlying t=some (.array n e))(hs:jL P e=some sz)(ha:oz P e=some b){x i:D}{u v:Value}(h1:eJ c w u x)(h2:eJ c w v i)(hk:Cv sz n b x i H K) :
  ∃ r,(Instr.index t u v).run P w = .ok r w∧iv G c H w K r w:=by
 unfold Cv at hk
 split at hk
 ·rename_i cs k m
  obtain⟨hm,hk⟩:=hk
  cases h2
  cases h1 with
  | agg vs _ hl h1 h2=>
   obtain⟨r,hr,hp⟩:=R2 (off:=m.toNat*sz) h ha hs ⟨hl,h1,h2⟩ hk
   refine⟨r,?_,hp⟩
   simp only[Instr.index,Sem.run_bind,asIntOf,Sem.run_pure,Result.andThen_ok,run_underlying hu,Sem.run_ite]
   rw[if_pos hm]
   simp[qz hs,hr]
 ·exact hk.elim
def aeW(h:e9 G c H w){t:TypeId}(hu:P.underlying t=some .string){x i:D}{u v:Value}(h1:eJ c w u x)(h2:eJ c w v i)(hk:Cw x i H K) :
  ∃ r,(Instr.index t u v).run P w = .ok r w∧iv G c H w K r w:=by
 unfold Cw at hk
 split at hk
 ·rename_i s k m
  obtain⟨hm,hk⟩:=hk
  cases h1
  cases h2
  have fq:m.toNat<s.size:=by omega
  have hl:s.data.toList.getD m.toNat 0=s[m.toNat]:=by
   have h':m.toNat<s.data.size:=fq
   show(s.data.toList[m.toNat]?).getD 0=s.data[m.toNat]
   rw[bB,b9 h']
   rfl
  rw[hl]at hk
  refine⟨_,?_,.val h hk⟩
  simp only[Instr.index,Sem.run_bind,asIntOf,Sem.run_pure,Result.andThen_ok,run_underlying hu]
  rw[if_pos hm.1]
  simp[fq]
 ·exact hk.elim
def aeQ(h:e9 G c H w){x:D}{i:Nat}{u:Value}(h1:eJ c w u x)(hk:BE x i H K):∃ r,(Instr.extract u i).run P w = .ok r w∧iv G c H w K r w:=by
 unfold BE at hk
 split at hk
 ·split at hk
  ·rename_i ds d hd
   cases h1 with
   | tup vs _ hl h1=>
    have hi:i<vs.length:=by rw[hl];exact(af.1 hd).1
    refine⟨vs[i],?_,.plain h hk (h1 i _ d (by simp[hi]) hd)⟩
    simp[Instr.extract,hi]
  ·exact hk.elim
 ·exact hk.elim
def ae0(h:e9 G c H w)(he:jW c w env a){f:Fn}{first cap:Array Operand}{df dc:List X}(h1:ur G first.toList=some df)(h2:ur G cap.toList=some dc)
  (hk:K (.fn f (df.map (ev env)) (dc.map (ev env))) H):iv G c H w K (.func f (first.map a.eval) (cap.map a.eval)) w:=by
 have r1:=w7 h he first.toList h1
 have r2:=w7 h he cap.toList h2
 refine .plain h hk ?_
 have:=eJ.fn (c:=c) (w:=w) f (first.toList.map a.eval) (cap.toList.map a.eval) (df.map (ev env)) (dc.map (ev env)) r1.length r2.length r1.get r2.get
 have e:∀ l:Array Operand,(l.toList.map a.eval).toArray=l.map a.eval:=fun l=>by cases l;simp
 rwa [e,e]at this
def ae1(h:e9 G c H w){al:Al}(gg:ma H al)(t:TypeId)(kk:KK)(hk:K (.fE al.1) (al.2 (.map kk []))):∃ r w',(Instr.makeMap t none).run P w = .ok r w'∧iv G c H w K r w':=by
 have rH:=jq.alloc w (.map #[] 0)
 have hL:(⟨w.heap.size,0,0,false⟩:Loc).iM=false→w.heap.size≤(⟨w.heap.size,0,0,false⟩:Loc).b∧(⟨w.heap.size,0,0,false⟩:Loc).b<(w.alloc (.map #[] 0)).heap.size:=fun _=>⟨Nat.le_refl _,by simp⟩
 have ht:=(gg (.map kk [])).rX
 have hs:=Jt h ht rH ⟨w.heap.size,0,0,false⟩ hL
 refine⟨.map (some w.heap.size),w.alloc (.map #[] 0),by simp[Instr.makeMap],_,_,_,hk,M5 h ht rH _ hL rfl ?_,?_,hs⟩
 ·simp only[gd]
  exact⟨trivial,by simp,#[],0,heap_alloc_new _ _,⟨rfl,by simp,by simp⟩⟩
 ·exact .fE (c:=c.set al.1 0 ⟨w.heap.size,0,0,false⟩) al.1 ⟨w.heap.size,0,0,false⟩ (Ctx.rh _ _ _ _) rfl
def ae2(h:e9 G c H w){al:Al}(gg:ma H al){t e:TypeId}{i:TypeInfo}{z:List D}(hu:P.underlying t=some (.slice e))(hi:P.info? e=some i)(hz:pg P e=some z)(uU:z.length=i.size)(jm:0<i.size)
  {l m:D} {u v:Value} (h1:eJ c w u l) (h2:eJ c w v m) (hk:CQ e i.size i.bytes z l m al K):∃ r w',(Instr.makeSlice t u v).run P w = .ok r w'∧iv G c H w K r w':=by
 unfold CQ at hk
 split at hk
 ·rename_i k n k' q
  obtain⟨⟨XV,hnq,hq,hb⟩,hk⟩:=hk
  cases h1
  cases h2
  obtain⟨zv,uV,_,qT⟩:=wC hz w
  have tD:zv.cells.size=i.size:=by have:=(qT c w).len;simp at this;omega
  have wn:IntKind.i64.wrap n=n:=wrap_i64 (by unfold mK;omega)
  have wq:IntKind.i64.wrap q=q:=wrap_i64 (by unfold mK;omega)
  have oX:Cells c w ((Array.range (q.toNat*i.size)).map (fun j=>zv.cells[j % zv.cells.size]!)).toList (List.replicate q.toNat z).flatten:=by
   rw[← tD,IV zv.cells q.toNat]
   exact Hl _ _ qT _
  obtain⟨L,e1,e2,e3,e4,e5,e6⟩:=CS h w (jq.refl w) e _ _ ((Array.range (q.toNat*i.size)).map (fun j=>zv.cells[j % zv.cells.size]!)).size ((Array.range (q.toNat*i.size)).map (fun j=>zv.cells[j % zv.cells.size]!)) (gg _).rX oX (by rw[← cM,dv]) (Nat.le_refl _)
  refine⟨.slice (some ⟨w.heap.size,0,none⟩) n.toNat q.toNat,w.alloc (.cells ((Array.range (q.toNat*i.size)).map (fun j=>zv.cells[j % zv.cells.size]!)) e),?_,?_⟩
  ·have c1:¬ ((i.bytes:Int)*q>2 ^ 48):=by omega
   have c2:¬ q<0:=by omega
   have c3:¬ n<0:=by omega
   have c4:¬ n>q:=by omega
   simp only[Instr.makeSlice,Sem.run_bind,run_underlying hu,Result.andThen_ok,asInt,asIntOf,Sem.run_pure,run_typeInfo hi,wn,wq,Sem.run_ite]
   rw[if_neg (by simp[c1,c2,c3,c4];omega)]
   by_cases h0:q.toNat*i.size=0
   ·have Yu:q.toNat=0:=by rcases Nat.mul_eq_zero.1 h0 with h|h<;>omega
    have er:Array.range 0=(#[]:Array Nat):=rfl
    simp[sizeOf,run_typeInfo hi,Yu,newRow,er]
   ·simp[sizeOf,run_typeInfo hi,h0,uV,newRow]
  ·have hp:=IP (c:=c) (w:=w.alloc (.cells ((Array.range (q.toNat*i.size)).map (fun j=>zv.cells[j % zv.cells.size]!)) e)) e1 e3 al.1 0 i.size n.toNat q.toNat (by rw[e4];simp) (by omega) (by unfold maxLen;omega)
   rw[e2]at hp
   exact⟨_,_,_,hk,e5,hp,e6⟩
 ·exact hk.elim
end
end Go.AL
namespace Go.AL
open Go
section
variable{P:Program}{G:GT}{c:Ctx}{H:U}{w:World}{K:iO}{env:fQ}{a:Act}
theorem Hj{α:Type}(sz:Nat)(jm:0<sz):∀ (ls:List (List α)),(∀ l∈ls,l.length=sz)→∀ j:Nat,ls.flatten[j]? = (ls[j / sz]?).bind (·[j % sz]?)
 | [],_,j=>by simp
 | l::ls,h,j=>by
  have hl:l.length=sz:=h l (by simp)
  rw[aL]
  by_cases hj:j<sz
  ·rw[ag (by omega),Nat.div_eq_of_lt hj,dT hj]
   simp
  ·rw[ak (by omega),hl,Hj sz jm ls (fun l hl=>h l (by simp[hl])),Nat.div_eq_sub_div (a:=j) (b:=sz) jm (by omega),Nat.mod_eq_sub_mod (a:=j) (b:=sz) (by omega)]
   simp
theorem Hk{α:Type}(sz:Nat):∀ (ls:List (List α)),(∀ l∈ls,l.length=sz)→ls.flatten.length=ls.length*sz
 | [],_=>by simp
 | l::ls,h=>by
  rw[aL,ay,Hk sz ls (fun l hl=>h l (by simp[hl])),h l (by simp),aI,bg]
  omega
def M0(h:e9 G c H w){sz:Nat}(jm:0<sz){d:D}{u:Value}(hr:eJ c w u d){ys:List D}{n:Nat}(hy:kY sz H d=some (ys,n)) :
  ∃ yb yc vs,u = .slice yb n yc∧Cells c w vs ys∧ys.length=n*sz∧n≤yc∧(yb=none→n=0)∧(∀ ad,yb=some ad→∀ (j:Nat) (v:Value),vs[j]? = some v→w.cell? (ad.add j)=some v):=by
 unfold kY at hy
 split at hy
 ·rename_i fV es
  split at hy
  ·rename_i e
   subst e
   cases hy
   cases hr with
   | sl ad len cap _ _ g hlen js jO gH oo hc hr=>
    have B1:=Hk fV es gH
    have hJ:∀ (j:Nat) (d:D),es.flatten[j]? = some d→∃ e,es[j / fV]? = some e∧e[j % fV]? = some d:=fun j d hd=>by
     rw[Hj fV jm es gH]at hd
     cases he:es[j / fV]? with
     | none=>simp[he]at hd
     | some e=>exact⟨e,rfl,by simpa[he]using hd⟩
    refine⟨ad,cap,(List.range es.flatten.length).map fun j=>g (j / fV) (j % fV),by rw[hlen],⟨by simp,fun v hv=>?_,fun i v d hv hd=>?_⟩,B1,by omega,fun e=>by have:=oo e;omega,fun b hb j v hv=>?_⟩
    ·simp only[ao,aY]at hv
     obtain⟨j,hj,rfl⟩:=hv
     obtain⟨e,BV,oj⟩:=hJ j _ (by rw[List.getElem?_eq_getElem hj])
     obtain⟨_,_,_,_,_,h1⟩:=hc _ e _ _ BV oj
     exact h1
    ·obtain⟨e,BV,oj⟩:=hJ i d hd
     simp only[av,bX (af.1 hd).1,bn,ar]at hv
     subst hv
     exact hr _ e _ d BV oj
    ·have hj:j<es.flatten.length:=by have:=(af.1 hv).1;simpa using this
     simp only[av,bX hj,bn,ar]at hv
     subst hv
     obtain⟨e,BV,oj⟩:=hJ j _ (by rw[List.getElem?_eq_getElem hj])
     obtain⟨b',o,zy,_,h2,_⟩:=hc _ e _ _ BV oj
     rw[hb]at zy
     cases zy
     rw[Addr.add_lit]
     have h3:=h2
     rw[Nat.div_add_mod' j fV]at h3
     exact h3
  ·cases hy
 ·cases hy
  cases hr with
  | eG=>exact⟨none,0,[],rfl,Cells.nil,by simp,Nat.le_refl _,fun _=>rfl,fun _ _ j v hv=>by simp at hv⟩
 ·rename_i v0 g0 fV off len
  split at hy
  ·rename_i t cs gq
   split at hy
   ·rename_i iG
    obtain⟨rfl,lV⟩:=iG
    cases hy
    have hv:=rW gq
    dsimp only at hv
    cases hr with
    | eF _ _ _ _ _ cap L eR gE js jO lY=>
     obtain⟨arr,h1,h2,h3,h4⟩:=wA h hv eR gE
     refine⟨_,cap,_,rfl,((h4.drop (off*fV)).take (n*fV)),?_,js,(fun e=>nomatch e),fun ad hb j v hv=>?_⟩
     ·simp only[aT,bw]
      rw[bg]at lV
      omega
     ·cases hb
      rw[Addr.add_lit]
      rw[aA]at hv
      split at hv
      ·rw[aD,aA]at hv
       split at hv
       ·rw[aD]at hv
        simp[World.cell?,h1]
        rw[a7]
        simpa using hv
       ·cases hv
      ·cases hv
    | mm _ _ _ _ L eR ad=>
     refine⟨ad,0,[],rfl,?_,by simp,Nat.le_refl _,fun _=>rfl,fun _ _ j v hv=>by simp at hv⟩
     simp only[cw,dF]
     exact Cells.nil
   ·cases hy
  ·cases hy
 ·cases hy
theorem N9:∀ {vs:List Value} {ys:List D} {ns:List Int},vs.length=ys.length→(∀ (i:Nat) (v:Value) (d:D),vs[i]? = some v→ys[i]? = some d→eJ c w v d)→bytesOf ys=some ns→vs=ns.map (Value.int .u8)
 | [],[],ns,_,_,h=>by cases h;rfl
 | v::vs,y::ys,ns,hl,hr,h=>by
  unfold bytesOf at h
  split at h
  ·rename_i heq;cases heq
  ·rename_i n r heq
   cases heq
   split at h
   ·rename_i l mi
    cases h
    have h0:=hr 0 v _ rfl rfl
    cases h0
    have e:=N9 (vs:=vs) (by simpa using hl) (fun i v d hv hd=>hr (i+1) v d (by simpa using hv) (by simpa using hd)) mi
    rw[e]
    rfl
   ·cases h
  ·cases h
def aeG(h:e9 G c H w){s d e:TypeId}(hs:P.underlying s=some (.slice e))(he:P.underlying e=some (.int .u8))(hd:P.underlying d=some .string){x:D}{u:Value}(h1:eJ c w u x)(hk:Bd x H K) :
  ∃ r,(convert s d u).run P w = .ok r w∧iv G c H w K r w:=by
 unfold Bd at hk
 split at hk
 ·rename_i ys n pF
  obtain⟨yb,yc,vs,o5,jH,jP,QR,Cp,Co⟩:=M0 h (by omega) h1 pF
  subst o5
  split at hk
  ·rename_i ns HV
   have hv:=N9 jH.len jH.rep HV
   refine⟨_,?_,.val h hk⟩
   rw[run_convert_bytes_string w s d e yb n yc hs he hd]
   cases yb with
   | none=>
    have hn:=Cp rfl
    subst hn
    have:ns = []:=by
     have:vs = []:=a8 (by rw[jH.len,jP])
     rw[this]at hv
     cases ns with
     | nil=>rfl
     | cons=>cases hv
    subst this
    simp[Conv.bytesToString]
   | some ad=>
    refine run_bytesToString w ad n yc ns ?_
    have hl:vs.length=n:=by rw[jH.len,jP];simp
    have:=run_loadCells_list (P:=P) w ad vs (Co ad rfl)
    rw[hl]at this
    rw[this,hv]
  ·exact hk.elim
 ·exact hk.elim
def T2(h:e9 G c H w)(he:jW c w env a){x:Option Operand}{X:Option X}(hx:uq G x=some X){d:Int}{n:Int}(hb:iz env X d=some n) :
  (x=none∧n=d)∨∃ k o,x=some o∧a.eval o = .int k n:=by
 cases x with
 | none=>cases hx;simp[iz]at hb;exact .inl ⟨rfl,hb.symm⟩
 | some o=>
  simp only[uq,ai]at hx
  obtain⟨X0,hX,rfl⟩:=hx
  have:=gX h he hX
  simp only[iz]at hb
  split at hb
  ·rename_i k m oY
   cases hb
   rw[oY]at this
   generalize hv:a.eval o=v at this
   cases this
   exact .inr ⟨k,o,rfl,hv⟩
  ·cases hb
def SO(isSlice:Bool)(len cap:Nat)(lo hi:Option Value)(l h:Int)(lq:(lo=none∧l=0)∨∃ k,lo=some (.int k l))(Xy:(hi=none∧h=len)∨∃ k,hi=some (.int k h))
  (h0:0≤l) (h1:l≤h) (h2:h≤cap):(Instr.sliceBounds isSlice len cap lo hi none).run P w = .ok (l.toNat,h.toNat,cap) w:=by
 have eh:(h.toNat:Int)=h:=cr (by omega)
 rcases lq with⟨rfl,rfl⟩|⟨k,rfl⟩<;>rcases Xy with⟨rfl,rfl⟩|⟨k',rfl⟩
 ·simp[Instr.sliceBounds]
 ·simp[Instr.sliceBounds,run_sliceBound w k' h cap _ (by omega) h2]
 ·simp[Instr.sliceBounds,run_sliceBound w k l len _ h0 h1]
 ·simp[Instr.sliceBounds,run_sliceBound w k' h cap _ (by omega) h2,run_sliceBound w k l h.toNat _ h0 (by omega)]
def Gz(h:e9 G c H w)(he:jW c w env a){x:Option Operand}{X:Option X}(hx:uq G x=some X){d:Int}{n:Int}(hb:iz env X d=some n) :
  (x.map a.eval=none∧n=d)∨∃ k,x.map a.eval=some (.int k n):=by
 rcases T2 h he hx hb with⟨rfl,rfl⟩|⟨k,o,rfl,hv⟩
 ·exact .inl ⟨rfl,rfl⟩
 ·exact .inr ⟨k,by simp[hv]⟩
def ae7(h:e9 G c H w)(he:jW c w env a){t e:TypeId}{sz:Nat}(hu:P.underlying t=some (.slice e))(hs:jL P e=some sz){lo hi:Option Operand}{L M:Option X}(hl:uq G lo=some L)(hm:uq G hi=some M)
  {x:D} {u:Value} (h1:eJ c w u x) (hk:Dp env sz x L M H K):∃ r,(Instr.sliceAt t u (lo.map a.eval) (hi.map a.eval) none).run P w = .ok r w∧iv G c H w K r w:=by
 have ig:∀ (b:Option Addr) (len cap:Nat) (l m:Int),iz env L 0=some l→iz env M len=some m→0≤l→l≤m→m≤cap →
   (Instr.sliceAt t (.slice b len cap) (lo.map a.eval) (hi.map a.eval) none).run P w = .ok (.slice (if cap=l.toNat then b else b.map (·.add (l.toNat*sz))) (m.toNat-l.toNat) (cap-l.toNat)) w:=by
  intro b len cap l m pS tt h0 sy XS
  have hb:=SO (P:=P) (w:=w) true len cap (lo.map a.eval) (hi.map a.eval) l m (Gz h he hl pS) (Gz h he hm tt) h0 sy XS
  simp only[Instr.sliceAt,Sem.run_bind,run_underlying hu,Result.andThen_ok,Instr.slice,hb,qz hs,Sem.run_pure]
 unfold Dp at hk
 split at hk
 ·rename_i fV es
  split at hk
  ·rename_i l m pS tt
   obtain⟨rfl,⟨h0,sy,Li⟩,hk⟩:=hk
   cases h1 with
   | sl ad len cap _ _ g hlen js jO gH oo hc hr=>
    refine⟨_,ig ad len cap l m pS (by rw[← hlen];exact tt) h0 sy (by omega),.plain h hk ?_⟩
    have hJ:∀ (i:Nat) (e:List D),((es.drop l.toNat).take (m.toNat-l.toNat))[i]? = some e→es[l.toNat+i]? = some e∧i<m.toNat-l.toNat:=fun i e hi=>by
     rw[aA]at hi
     split at hi
     ·rw[aD]at hi;exact⟨hi,by assumption⟩
     ·cases hi
    refine .sl _ _ _ fV _ (fun i j=>g (l.toNat+i) j) (by simp;omega) (by omega) (by omega) (fun e kz=>gH e (bV (aJ kz))) ?_ ?_ ?_
    ·intro hn
     split at hn
     ·omega
     ·cases ad with
      | none=>have:=oo rfl;omega
      | some ad=>simp at hn
    ·intro i e j d hi hd
     obtain⟨h3,h4⟩:=hJ i e hi
     obtain⟨b,o,zy,hF,xC,h1⟩:=hc _ e j d h3 hd
     refine⟨b,o+l.toNat*fV,?_,hF,?_,h1⟩
     ·rw[if_neg (by omega),zy]
      simp[Addr.add_lit]
     ·rw[← xC,bg]
      congr 2
      omega
    ·intro i e j d hi hd
     exact hr _ e j d (hJ i e hi).1 hd
  ·exact hk.elim
 ·rename_i v g0 fV off len
  split at hk
  ·rename_i l m pS tt
   obtain⟨rfl,⟨h0,sy,Li⟩,hk⟩:=hk
   cases h1 with
   | eF _ _ _ _ _ cap Lc eR hv js jO lY=>
    refine⟨_,ig _ len cap l m pS tt h0 sy (by omega),.plain h hk ?_⟩
    by_cases hz:cap=l.toNat
    ·rw[if_pos hz,show m.toNat-l.toNat=0 by omega,show cap-l.toNat=0 by omega]
     exact .mm v g0 fV (off+l.toNat) Lc eR _
    ·rw[if_neg hz]
     have:=eJ.eF (c:=c) (w:=w) v g0 fV (off+l.toNat) (m.toNat-l.toNat) (cap-l.toNat) Lc eR hv (by omega) (by omega) (by rw[show off+l.toNat+(cap-l.toNat)=off+cap by omega];exact lY)
     simp only[bn,Addr.add_lit]
     rw[a7,← bg]
     exact this
   | mm _ _ _ _ Lc eR ad=>
    have:l=0:=by omega
    subst this
    have:m=0:=by omega
    subst this
    refine⟨_,ig ad 0 0 0 0 pS tt h0 sy (by omega),.plain h hk ?_⟩
    simp only[Int.toNat_zero,if_true,Nat.sub_zero,cc]
    exact .mm v g0 fV off Lc eR ad
  ·exact hk.elim
 ·split at hk
  ·rename_i l m pS tt
   obtain⟨⟨rfl,rfl⟩,hk⟩:=hk
   cases h1 with
   | eG=>
    refine⟨_,ig none 0 0 0 0 pS tt (by omega) (by omega) (by omega),.plain h hk ?_⟩
    simp only[Int.toNat_zero,if_true,Nat.sub_zero]
    exact .eG
  ·exact hk.elim
 ·exact hk.elim
def ae8(h:e9 G c H w)(he:jW c w env a){t:TypeId}(hu:P.underlying t=some .string){lo hi:Option Operand}{L M:Option X}(hl:uq G lo=some L)(hm:uq G hi=some M)
  {s:ByteArray} (hk:Ap env (.val (.string s)) L M H K):∃ r,(Instr.sliceAt t (.string s) (lo.map a.eval) (hi.map a.eval) none).run P w = .ok r w∧iv G c H w K r w:=by
 simp only[Ap]at hk
 split at hk
 ·rename_i l m pS tt
  obtain⟨⟨h0,sy,Li⟩,hk⟩:=hk
  have hb:=SO (P:=P) (w:=w) false s.size s.size (lo.map a.eval) (hi.map a.eval) l m (Gz h he hl pS) (Gz h he hm tt) h0 sy Li
  exact⟨.string (s.extract l.toNat m.toNat),by simp[Instr.sliceAt,run_underlying hu,Instr.slice,hb],.val h hk⟩
 ·exact hk.elim
def wm{v:Nat}{x:KK×List (Value×D)}(h:kX H v=some x):H[v]? = some (.map x.1 x.2):=by
 unfold kX at h
 split at h
 ·cases h;assumption
 ·cases h
def Mu(h:e9 G c H w){t ty:TypeId}{k:wV}{d:TypeDesc}(hd:P.underlying t=some d)(xK:match k with | .slice=>∃ e,d = .slice e | .string=>d = .string | .map=>∃ k e,d = .map k e)
  {x:D} {u:Value} (h1:eJ c w u x) (hk:CE k x H K):∃ r,(Builtin.len_ #[t] ty #[u]).run P w = .ok r w∧iv G c H w K r w:=by
 unfold CE at hk
 split at hk
 ·obtain⟨e,rfl⟩:=xK
  cases h1 with
  | sl ad len cap _ _ g hlen js jO gH oo hc hr=>
   refine⟨goInt len,by simp[Builtin.len_,run_underlying hd],.plain h hk ?_⟩
   rw[hlen];exact .val _
 ·obtain⟨e,rfl⟩:=xK
  cases h1 with
  | eG=>exact⟨goInt 0,by simp[Builtin.len_,run_underlying hd],.plain h hk (.val _)⟩
 ·rename_i v g0 sz off len
  obtain⟨e,rfl⟩:=xK
  cases h1 with
  | eF _ _ _ _ _ cap L eR hv js jO lY=>exact⟨goInt len,by simp[Builtin.len_,run_underlying hd],.plain h hk (.val _)⟩
  | mm=>exact⟨goInt 0,by simp[Builtin.len_,run_underlying hd],.plain h hk (.val _)⟩
 ·have xK:d = .string:=xK
  subst xK
  cases h1
  exact⟨_,by simp[Builtin.len_,run_underlying hd]<;>rfl,.plain h hk (.val _)⟩
 ·rename_i v
  obtain⟨kk,e,rfl⟩:=xK
  split at hk
  ·rename_i qv es rE
   cases h1 with
   | fE _ L eR hv=>
    have gA:=h.ob v _ (wm rE)
    simp only[Ob.gen]at gA
    rw[eR]at gA
    simp only[gd]at gA
    obtain⟨_,_,arr,clock,hm,gH,_⟩:=gA
    refine⟨goInt arr.size,by simp[Builtin.len_,run_underlying hd,getObj,Sem.run,hm],.plain h hk ?_⟩
    rw[← gH];exact .val _
  ·exact hk.elim
 ·exact hk.elim
def RX(h:e9 G c H w)(he:jW c w env a){xs:List X}{ops:Array Operand}(hx:ur G ops.toList=some xs)(isMax:Bool)(ts:Array TypeId)(ty:TypeId)(hk:CP env isMax xs H K) :
  ∃ r,(if isMax then Builtin.max_ ts ty (ops.map a.eval)else Builtin.min_ ts ty (ops.map a.eval)).run P w = .ok r w∧iv G c H w K r w:=by
 have hr:=w7 h he ops.toList hx
 have key:∀ (xs:List X) (vs:List Value) (l:List Int),pG env xs=some l→iy c w vs (xs.map (ev env))→vs=l.map (Value.int .i64 ·):=by
  intro xs
  induction xs with
  | nil=>intro vs l hl hr;simp[pG]at hl;subst hl;cases hr;rfl
  | cons x xs ih=>
   intro vs l hl hr
   simp only[pG]at hl
   split at hl
   ·rename_i n l' oY mi
    cases hl
    simp only[List.map_cons]at hr
    cases hr with
    | cons h1 h2=>
     rw[oY]at h1
     cases h1
     rw[ih _ _ mi h2]
     rfl
   ·cases hl
 have e:∀ l:Array Operand,(l.toList.map a.eval).toArray=l.map a.eval:=fun l=>by cases l;simp
 unfold CP at hk
 split at hk
 ·rename_i p q hi
  have hv:=key _ _ _ hi hr
  have lA:ops.map a.eval = #[.int .i64 p,.int .i64 q]:=by rw[← e,hv];rfl
  cases isMax
  ·refine⟨.int .i64 (min p q),?_,.val h (by simpa using hk)⟩
   simp only[bG,if_false,lA]
   have:(if q<p then q else p)=min p q:=by omega
   simp[Builtin.min_,Builtin.min2,this]
  ·refine⟨.int .i64 (max p q),?_,.val h (by simpa using hk)⟩
   simp only[if_true,lA]
   have:(if q>p then q else p)=max p q:=by omega
   simp[Builtin.max_,Builtin.max2]
   omega
 ·rename_i p q s hi
  have hv:=key _ _ _ hi hr
  have lA:ops.map a.eval = #[.int .i64 p,.int .i64 q,.int .i64 s]:=by rw[← e,hv];rfl
  cases isMax
  ·refine⟨.int .i64 (min (min p q) s),?_,.val h (by simpa using hk)⟩
   simp only[bG,if_false,lA]
   simp[Builtin.min_,Builtin.min2]
   omega
  ·refine⟨.int .i64 (max (max p q) s),?_,.val h (by simpa using hk)⟩
   simp only[if_true,lA]
   simp[Builtin.max_,Builtin.max2]
   omega
 ·exact hk.elim
end
end Go.AL
namespace Go.AL
open Go
section
variable{P:Program}{G:GT}{c:Ctx}{H:U}{w:World}{K:iO}{env:fQ}{a:Act}
def RH{G:GT}{c:Ctx}{H:U}{w w':World}(h:e9 G c H w){v g:Nat}{t:TypeId}{cs:List D}(hv:H[v]? = some (.row t g cs)){L:Loc}(eR:c.ι v g=some L)(L':Loc)
  (hg:(w'.os=w.os∧w.drawn≤w'.drawn)∧w'.tape=w.tape∧w'.output=w.output∧w.heap.size≤w'.heap.size) (HO:∀ b,b<w.heap.size→¬ (L.iM=false∧b=L.b)→w'.heap[b]? = w.heap[b]?)
  (xT:L'.iM=false→(w.heap.size≤L'.b∨(L.iM=false∧L'.b=L.b))∧L'.b<w'.heap.size) (mu:List D)
  (gA:(∀ u d,eJ c w u d→eJ (c.set v (g+1) L') w' u d)→gd (c.set v (g+1) L') w' (some L') (.row t (g+1) mu)) :
  e9 G (c.set v (g+1) L') (H.set v (.row t (g+1) mu)) w'∧Step H.length c H w (c.set v (g+1) L') (H.set v (.row t (g+1) mu)) w':=by
 have gV:v<H.length:=(af.1 hv).1
 have rI:kN c H v L:=⟨_,hv,rfl,eR⟩
 have ht:vt H v (.row t (g+1) mu) (H.set v (.row t (g+1) mu)):=⟨p6 gV,.inr (.inr ⟨_,hv,rfl,Nat.lt_succ_self _⟩),by simp⟩
 have Ya:∀ b,c.F b→¬ (L.iM=false∧b=L.b):=fun b hF e=>h.nF b ⟨v,L,rI,e.1,e.2.symm⟩ hF
 have lI:∀ u l,kN (c.set v (g+1) L') (H.set v (.row t (g+1) mu)) u l→(u=v∧l=L')∨(u≠v∧kN c H u l):=fun u l hl=>Ax ht hl
 have qk:∀ b,lj (c.set v (g+1) L') (H.set v (.row t (g+1) mu)) b→(L'.iM=false∧b=L'.b)∨(lj c H b∧¬ (L.iM=false∧b=L.b)):=by
  rintro b ⟨u,l,hl,lZ,rfl⟩
  rcases lI u l hl with⟨_,rfl⟩|⟨gw,h1⟩
  ·exact .inl ⟨lZ,rfl⟩
  ·exact .inr ⟨⟨u,l,h1,lZ,rfl⟩,fun e=>gw (h.inj u v l L h1 rI lZ e.1 e.2)⟩
 have hs:Step H.length c H w (c.set v (g+1) L') (H.set v (.row t (g+1) mu)) w':={
  os:=hg.1
  tape:=hg.2.1
  output:=hg.2.2.1
  size:=hg.2.2.2
  RT:=rfl
  Fm:=fun _ h=>h
  Fn:=fun _ h=>.inl h
  kept:=fun b hb hn=>HO b hb fun e=>hn ⟨v,L,rI,e.1,e.2.symm⟩
  old:=fun u k l _ hu=>Tc h ht u k l hu
  own:=fun b hb=>by
   rcases qk b hb with⟨lZ,rfl⟩|⟨hb,_⟩
   ·rcases(xT lZ).1 with h1|⟨h1,h2⟩
    ·exact .inl h1
    ·exact .inr ⟨v,L,rI,h1,h2.symm⟩
   ·exact .inr hb }
 have hr:∀ u d,eJ c w u d→eJ (c.set v (g+1) L') w' u d:=fun u d hd=>hd.pd h.toHeapOK hs
 refine⟨{
  inj:=fun u u' l l' h1 h2 h5 h6 he=>by
   rcases lI u l h1 with⟨rfl,rfl⟩|⟨n1,b1⟩<;>rcases lI u' l' h2 with⟨rfl,rfl⟩|⟨n2,b2⟩
   ·rfl
   ·exfalso
    have fq:=h.lt l'.b ⟨u',l',b2,h6,rfl⟩
    rcases(xT h5).1 with h7|⟨h7,h8⟩
    ·omega
    ·exact n2 (h.inj u' u l' L b2 rI h6 h7 (by omega))
   ·exfalso
    have fq:=h.lt l.b ⟨u,l,b1,h5,rfl⟩
    rcases(xT h6).1 with h7|⟨h7,h8⟩
    ·omega
    ·exact n1 (h.inj u u' l L b1 rI h5 h7 (by omega))
   ·exact h.inj u u' l l' b1 b2 h5 h6 he
  lt:=fun b hb=>by
   rcases qk b hb with⟨lZ,rfl⟩|⟨hb,_⟩
   ·exact(xT lZ).2
   ·exact aK (h.lt b hb) hg.2.2.2
  nF:=fun b hb hF=>by
   rcases qk b hb with⟨lZ,rfl⟩|⟨hb,_⟩
   ·rcases(xT lZ).1 with h7|⟨h7,h8⟩
    ·have:=h.jG _ hF;omega
    ·exact Ya _ hF ⟨h7,h8⟩
   ·exact h.nF b hb hF
  jG:=fun b hb=>aK (h.jG b hb) hg.2.2.2
  out:=fun u k hu=>by
   simp only[cd]at hu
   rw[Ctx.sM _ _ (by rintro⟨rfl,_⟩;omega)];exact h.out u k hu
  lk:=fun u o k ho hk=>by
   rw[p6 gV]at ho
   split at ho
   ·rename_i e
    cases ho;subst e
    rcases hk with hk|⟨_,hk⟩
    ·cases hk
    ·simp only[Ob.gen]at hk
     rw[Ctx.sM _ _ (by rintro⟨_,rfl⟩;omega)];exact h.lk u _ k hv (.inr ⟨rfl,by simp only[Ob.gen];omega⟩)
   ·rename_i e
    rw[Ctx.sM _ _ (fun h=>e h.1)]
    exact h.lk u o k ho hk
  ob:=fun u o ho=>by
   rw[p6 gV]at ho
   split at ho
   ·rename_i e
    cases ho;subst e
    simp only[Ob.gen]
    rw[Ctx.rh]
    exact gA hr
   ·rename_i gw
    rw[Ctx.sM _ _ (fun h=>gw h.1)]
    exact gd.pY (c:=c) (c':=c.set v (g+1) L') rfl hr (fun l hl lA hd=>HO _ (h.lt _ ⟨u,l,⟨o,ho,hd,hl⟩,lA,rfl⟩) fun e=>gw (h.inj u v l L ⟨o,ho,hd,hl⟩ rI lA e.1 e.2)) (h.ob u o ho)
  gl:=fun g' cs xE=>by
   obtain⟨fM,qS⟩:=h.gl g' cs xE
   exact⟨fM,hr _ _ qS⟩
  rt:=h.rt },hs⟩
def Mm{G:GT}{c:Ctx}{H:U}{w w':World}(h:e9 G c H w){v g:Nat}{t:TypeId}{cs:List D}(hv:H[v]? = some (.row t g cs)){L:Loc}(eR:c.ι v g=some L)(L':Loc)(gE:L'.iM=false)
  (hg:(w'.os=w.os∧w.drawn≤w'.drawn)∧w'.tape=w.tape∧w'.output=w.output∧w.heap.size≤w'.heap.size) (HO:∀ b,b<w.heap.size→¬ (L.iM=false∧b=L.b)→w'.heap[b]? = w.heap[b]?)
  (xT:(w.heap.size≤L'.b∨(L.iM=false∧L'.b=L.b))∧L'.b<w'.heap.size)
  (arr:Array Value) (my:w'.heap[L'.b]? = some (.cells arr t (0,0))) (lY:L'.top=arr.size) (mu:List D) (hlen:L'.base+mu.length≤L'.top)
  (hc:∀ (i:Nat) (d:D),mu[i]? = some d→∃ u,arr[L'.base+i]? = some u∧u.oneCell'=true∧eJ c w u d) :
  e9 G (c.set v (g+1) L') (H.set v (.row t (g+1) mu)) w'∧Step H.length c H w (c.set v (g+1) L') (H.set v (.row t (g+1) mu)) w':=by
 refine RH h hv eR L' hg HO (fun _=>xT) mu fun hr=>?_
 simp only[gd,gE]
 refine⟨arr,my,lY,hlen,fun i d hd=>?_⟩
 obtain⟨x,o6,lJ,uT⟩:=hc i d hd
 exact⟨x,o6,lJ,hr _ _ uT⟩
def U5{G:GT}{c:Ctx}{H:U}{w:World}(h:e9 G c H w){v g:Nat}{t:TypeId}{cs:List D}(hv:H[v]? = some (.row t g cs)){L:Loc}(eR:c.ι v g=some L) :
  e9 G (c.set v (g+1) L) (H.set v (.row t (g+1) [])) w∧Step H.length c H w (c.set v (g+1) L) (H.set v (.row t (g+1) [])) w:=by
 refine RH h hv eR L ⟨⟨rfl,Nat.le_refl _⟩,rfl,rfl,Nat.le_refl _⟩ (fun _ _ _=>rfl) (fun lZ=>⟨.inr ⟨lZ,rfl⟩,h.lt _ ⟨v,L,⟨_,hv,rfl,eR⟩,lZ,rfl⟩⟩) [] fun _=>?_
 have h0:=h.ob v _ hv
 simp only[Ob.gen]at h0
 rw[eR]at h0
 simp only[gd]at h0 ⊢
 split
 ·simp
 ·rename_i lZ
  simp only[lZ]at h0
  obtain⟨arr,h1,h2,h3,_⟩:=h0
  exact⟨arr,h1,h2,by simp;omega,by simp⟩
def MP{t u ty e:TypeId}{i:TypeInfo}{zv:Value}(ht:P.underlying t=some (.slice e))(hu:∃ e',P.underlying u=some (.slice e'))(hi:P.info? e=some i)(hz:i.zero=some zv)
  (b:Option Addr) (nv sL:Nat) (y:Value) (yb:Option Addr) (n yc:Nat) (hy:y = .slice yb n yc) (R4 news:List Value)
  (hold:(Builtin.firstCells i.size nv (.slice b nv sL)).run P w.drew = .ok R4.toArray w.drew) (lW:(Builtin.firstCells i.size n y).run P w.drew = .ok news.toArray w.drew)
  (hg:sL<nv+n) (zt:nv+n≤9223372036854775807) (hb:(nv+n)*i.bytes≤140737488355328) :
  (Builtin.append_ #[t,u] ty #[.slice b nv sL,y]).run P w = .ok (.slice (some ⟨w.heap.size,0,none⟩) (nv+n) (grownCap w (nv+n) sL e))
    (w.drew.alloc (.cells (R4.toArray++news.toArray++Builtin.zeroCells zv.cells (grownCap w (nv+n) sL e-(nv+n))) e)):=by
 subst hy
 obtain⟨e',hu⟩:=hu
 have hn:¬ (nv+n≤sL):=by omega
 have PF:¬ (9223372036854775807<((nv:Int)+(n:Int))):=by omega
 have KD:¬ (281474976710656<Builtin.nextslicecap (nv+n) sL*i.bytes):=by have:=growslice_fits hg hb;omega
 simp[Builtin.append_,run_underlying ht,run_underlying hu,sizeOf,typeInfo,zeroValue,hi,hz,Builtin.lenOf,hn,PF,KD,Question.forced,newRow,grownCap,hold,lW]
 congr 2
 apply dS
 simp[bj]
def afX{t u ty e:TypeId}{i:TypeInfo}(ht:P.underlying t=some (.slice e))(hu:∃ e',P.underlying u=some (.slice e'))(hi:P.info? e=some i)
  (b o:Nat) (nv sL:Nat) (y:Value) (yb:Option Addr) (n yc:Nat) (hy:y = .slice yb n yc) (news:List Value) (arr:Array Value) (hg:w.heap[b]? = some (.cells arr e (0,0)))
  (lW:(Builtin.firstCells i.size n y).run P w = .ok news.toArray w) (h1:∀ v∈news,v.oneCell'=true) (Cf:nv+n≤sL) (lV:o+nv*i.size+news.length≤arr.size) :
  (Builtin.append_ #[t,u] ty #[.slice (some ⟨b,o,none⟩) nv sL,y]).run P w = .ok (.slice (some ⟨b,o,none⟩) (nv+n) sL)
    (w.setRow b (arr.toList.take (o+nv*i.size)++news++arr.toList.drop (o+nv*i.size+news.length)).toArray):=by
 subst hy
 obtain⟨e',hu⟩:=hu
 have eX:=run_storeCells_at P b (o+nv*i.size) e news 0 arr w hg (by simpa using lV) h1
 simp only[cc]at eX
 simp[Builtin.append_,run_underlying ht,run_underlying hu,sizeOf,typeInfo,hi,Builtin.lenOf,Cf,lW,Addr.add_lit,eX]
def Kl{sz:Nat}{w':World}{yb:Option Addr}{yc n:Nat}{vs:List Value}(hl:vs.length=n*sz)(oo:yb=none→n=0)(hc:∀ ad,yb=some ad→∀ (j:Nat) (v:Value),vs[j]? = some v→w'.cell? (ad.add j)=some v) :
  (Builtin.firstCells sz n (.slice yb n yc)).run P w' = .ok vs.toArray w':=by
 cases yb with
 | none=>
  have:=oo rfl
  subst this
  have:vs = []:=a8 (by simpa using hl)
  subst this
  exact run_firstCells_none w' sz 0 0 yc
 | some ad=>exact run_firstCells_some w' sz n ad n yc vs hl (hc ad rfl)
def PA(w:World)(o:Obj):jq w (w.drew.alloc o):=(jq.drew w).trans (jq.alloc _ _)
def aeD(h:e9 G c H w){al:Al}(gg:ma H al){t u ty e:TypeId}{i:TypeInfo}{z:List D}(ht:P.underlying t=some (.slice e))(hu:∃ e',P.underlying u=some (.slice e'))(hi:P.info? e=some i)(hz:pg P e=some z)(uU:z.length=i.size)(jm:0<i.size)
  {x y:D} {ux uy:Value} (h1:eJ c w ux x) (h2:eJ c w uy y) (hk:Ba e i.size i.bytes x y H al K):∃ r w',(Builtin.append_ #[t,u] ty #[ux,uy]).run P w = .ok r w'∧iv G c H w K r w':=by
 obtain⟨zv,uV,Cq,qT⟩:=wC hz w
 have Cr:i.zero=some zv:=by simpa[hi]using Cq
 have tD:zv.cells.size=i.size:=by have:=(qT c w).len;simp at this;omega
 unfold Ba at hk
 split at hk
 ·rename_i ys n pF
  obtain⟨yb,yc,vs,o5,jH,jP,QR,Cp,Co⟩:=M0 h jm h2 pF
  have gV:vs.length=n*i.size:=by rw[jH.len,jP]
  have lW:∀ w',(∀ b,w'.cell? b=w.cell? b)→(Builtin.firstCells i.size n uy).run P w' = .ok vs.toArray w':=fun w' sE=>by
   rw[o5];exact Kl gV Cp (fun ad ha j v hj=>by rw[sE];exact Co ad ha j v hj)
  split at hk
  ·rename_i v g fV off len
   split at hk
   ·rename_i t' cs gq
    have hv:=rW gq
    dsimp only at hv
    obtain⟨⟨rfl,QF,hlen,oE,zt⟩,hk⟩:=hk
    have YL:=QF.symm
    subst YL
    clear QF
    have YT:v<H.length:=(af.1 hv).1
    cases h1 with
    | eF _ _ _ _ _ cap L eR gE js jO lY=>
     obtain⟨arr,zx,KN,WU,KQ⟩:=wA h hv eR gE
     have HW:Cells c w (((((arr.toList.drop L.base).take cs.length)).drop (off*i.size)).take (len*i.size)) ((cs.drop (off*i.size)).take (len*i.size)):=(KQ.drop _).take _
     rw[bg]at lY hlen
     generalize off*i.size=q at *
     by_cases Cf:len+n≤cap
     ·have lV:L.base+q+len*i.size+vs.length≤arr.size:=by
       have hm:=bq i.size Cf
       rw[bg]at hm
       omega
      have ig:=afX (ty:=ty) ht hu hi L.b (L.base+q) len cap uy yb n yc o5 vs arr zx (lW w fun _=>rfl) jH.one Cf lV
      refine⟨_,_,ig,?_⟩
      have gH:(arr.toList.take (L.base+q+len*i.size)++vs++arr.toList.drop (L.base+q+len*i.size+vs.length)).toArray.size=arr.size:=by simp;omega
      obtain⟨m1,m2⟩:=Mm (w':=w.setRow L.b (arr.toList.take (L.base+q+len*i.size)++vs++arr.toList.drop (L.base+q+len*i.size+vs.length)).toArray) h hv eR ⟨L.b,L.base+q,L.top,false⟩ rfl
       ⟨⟨rfl,Nat.le_refl _⟩,rfl,rfl,by simp[World.setRow]⟩ (fun b _ hn=>by simp only[World.setRow,bL];rw[if_neg (fun e=>hn ⟨gE,e.symm⟩)])
       ⟨.inr ⟨gE,rfl⟩,by have:=h.lt _ ⟨v,L,⟨_,hv,rfl,eR⟩,gE,rfl⟩;simpa[World.setRow]using this⟩
       _ (setRow_heap w L.b arr _ _ _ zx) (by show L.top=_;rw[KN,gH]) ((cs.drop q).take (len*i.size)++ys) (by simp only[ay,aT,bw];rw[← jH.len];omega) (fun j d hd=>by
        obtain⟨x,hx,o6,lJ⟩:=(HW.append jH).get hd
        refine⟨x,?_,o6,lJ⟩
        rw[← hx]
        simp only[cT]
        have iR:(List.take (L.base+q+len*i.size) arr.toList).length=L.base+q+len*i.size:=by simp;omega
        have iA:(List.take (len*i.size) (List.drop q (List.take cs.length (List.drop L.base arr.toList)))).length=len*i.size:=by simp;omega
        by_cases c1:j<len*i.size
        ·rw[ag (by simp;omega),ag (by rw[iR];omega),ag (by rw[iA];omega)]
         simp only[aA,aD]
         rw[if_pos (by omega),if_pos (by omega),if_pos (by omega)]
         congr 1;omega
        ·have oG:j<len*i.size+vs.length:=by have:=(af.1 hx).1;rw[ay,iA]at this;omega
         rw[ag (by rw[ay,iR];omega),ak (by rw[iR];omega),ak (by rw[iA];omega),iR,iA]
         congr 1
         omega)
      refine⟨_,_,_,hk,m1,?_,m2⟩
      have:=eJ.eF (c:=c.set v (g+1) ⟨L.b,L.base+q,L.top,false⟩) (w:=w.setRow L.b (arr.toList.take (L.base+q+len*i.size)++vs++arr.toList.drop (L.base+q+len*i.size+vs.length)).toArray) v (g+1) i.size 0 (len+n) cap ⟨L.b,L.base+q,L.top,false⟩ (Ctx.rh _ _ _ _) rfl Cf jO (by simp;omega)
      simpa using this
     ·have hold:(Builtin.firstCells i.size len (.slice (some ⟨L.b,L.base+q,none⟩) len cap)).run P w.drew = .ok ((((arr.toList.drop L.base).take cs.length).drop q).take (len*i.size)).toArray w.drew:=by
       refine run_firstCells_some _ _ _ _ _ _ _ (by rw[HW.len];simp;omega) (fun j v hj=>?_)
       rw[aA]at hj
       split at hj
       ·rw[aD,aA]at hj
        split at hj
        ·rw[aD]at hj
         rw[Addr.add_lit]
         show w.cell? ⟨L.b,L.base+q+j,none⟩=some v
         simp[World.cell?,zx]
         rw[a7]
         simpa using hj
        ·cases hj
       ·cases hj
      have ig:=MP (ty:=ty) ht hu hi Cr (some ⟨L.b,L.base+q,none⟩) len cap uy yb n yc o5 _ vs hold (lW _ fun _=>rfl) (by omega) zt oE
      refine⟨_,_,ig,?_⟩
      have QE:((((arr.toList.drop L.base).take cs.length).drop q).take (len*i.size)).toArray.size=len*i.size:=by have:=HW.len;simp at this ⊢;omega
      have uK:=grownCap_ge w (len+n) cap e
      have om:=grownCap_le_maxLen w (len+n) cap e (by unfold maxLen;omega)
      obtain⟨m1,m2⟩:=Mm (w':=w.drew.alloc (.cells (((((arr.toList.drop L.base).take cs.length).drop q).take (len*i.size)).toArray++vs.toArray++Builtin.zeroCells zv.cells (grownCap w (len+n) cap e-(len+n))) e)) h hv eR
       ⟨w.heap.size,0,grownCap w (len+n) cap e*i.size,false⟩ rfl ⟨⟨rfl,Nat.le_succ _⟩,rfl,rfl,by simp⟩ (fun b hb _=>(PA w _).kept b hb) ⟨.inl (Nat.le_refl _),by simp⟩
       _ (heap_alloc_new w.drew _) (by
        simp only[cE,QE,dj,gV,size_zeroCells,tD,← bg]
        congr 1;omega) ((cs.drop q).take (len*i.size)++ys) (by
        simp only[ay,aT,bw,jP,aU]
        have:=bq i.size uK
        rw[bg]at this
        omega) (fun j d hd=>by
        obtain⟨x,hx,o6,lJ⟩:=(HW.append jH).get hd
        refine⟨x,?_,o6,lJ⟩
        rw[← hx,aU,← bB]
        have fq:=(af.1 hx).1
        simp only[c7]
        rw[ag (by simpa using fq)])
      refine⟨_,_,_,hk,m1,?_,m2⟩
      have:=eJ.eF (c:=c.set v (g+1) ⟨w.heap.size,0,grownCap w (len+n) cap e*i.size,false⟩) (w:=w.drew.alloc (.cells (((((arr.toList.drop L.base).take cs.length).drop q).take (len*i.size)).toArray++vs.toArray++Builtin.zeroCells zv.cells (grownCap w (len+n) cap e-(len+n))) e))
       v (g+1) i.size 0 (len+n) (grownCap w (len+n) cap e) ⟨w.heap.size,0,grownCap w (len+n) cap e*i.size,false⟩ (Ctx.rh _ _ _ _) rfl uK om (by simp)
      simpa using this
    | mm _ _ _ _ L eR ad=>
     simp only[aU,cc,cw,dF,bt]at hk oE zt ⊢
     by_cases hn:n=0
     ·subst hn
      have LI:vs = []:=a8 (by simpa using gV)
      have Zc:ys = []:=a8 (by simpa using jP)
      subst Zc
      have ig:(Builtin.append_ #[t,u] ty #[.slice ad 0 0,uy]).run P w = .ok (.slice ad 0 0) w:=by
       obtain⟨e',hu⟩:=hu
       have xQ:=lW w fun _=>rfl
       rw[LI]at xQ
       rw[o5]at xQ ⊢
       simp[Builtin.append_,run_underlying ht,run_underlying hu,sizeOf,typeInfo,hi,Builtin.lenOf,xQ]
       cases ad<;>simp[storeCells]
      obtain⟨m1,m2⟩:=U5 h hv eR
      exact⟨_,_,ig,_,_,_,hk,m1,.mm v (g+1) i.size 0 L (Ctx.rh _ _ _ _) ad,m2⟩
     ·have hold:(Builtin.firstCells i.size 0 (.slice ad 0 0)).run P w.drew = .ok ([]:List Value).toArray w.drew:=Kl (by simp) (fun _=>rfl) (fun _ _ j v hj=>by simp at hj)
      have ig:=MP (w:=w) (ty:=ty) ht hu hi Cr ad 0 0 uy yb n yc o5 [] vs hold (lW _ fun _=>rfl) (by omega) (by omega) (by simpa using oE)
      simp only[aU]at ig
      refine⟨_,_,ig,?_⟩
      have uK:=grownCap_ge w n 0 e
      have om:=grownCap_le_maxLen w n 0 e (by unfold maxLen;omega)
      obtain⟨m1,m2⟩:=Mm (w':=w.drew.alloc (.cells (([]:List Value).toArray++vs.toArray++Builtin.zeroCells zv.cells (grownCap w n 0 e-n)) e)) h hv eR
       ⟨w.heap.size,0,grownCap w n 0 e*i.size,false⟩ rfl ⟨⟨rfl,Nat.le_succ _⟩,rfl,rfl,by simp⟩ (fun b hb _=>(PA w _).kept b hb) ⟨.inl (Nat.le_refl _),by simp⟩
       _ (heap_alloc_new w.drew _) (by
        simp only[cE,dj,cA,gV,size_zeroCells,tD,aU,← bg]
        congr 1;omega) ys (by
        simp only[jP,aU]
        exact bq i.size uK) (fun j d hd=>by
        obtain⟨x,hx,o6,lJ⟩:=jH.get hd
        refine⟨x,?_,o6,lJ⟩
        rw[← hx,aU,← bB]
        have fq:=(af.1 hx).1
        simp only[c7,bt]
        rw[ag (by simpa using fq)])
      refine⟨_,_,_,hk,m1,?_,m2⟩
      have:=eJ.eF (c:=c.set v (g+1) ⟨w.heap.size,0,grownCap w n 0 e*i.size,false⟩) (w:=w.drew.alloc (.cells (([]:List Value).toArray++vs.toArray++Builtin.zeroCells zv.cells (grownCap w n 0 e-n)) e))
       v (g+1) i.size 0 n (grownCap w n 0 e) ⟨w.heap.size,0,grownCap w n 0 e*i.size,false⟩ (Ctx.rh _ _ _ _) rfl uK om (by simp)
      simpa using this
   ·exact hk.elim
  ·cases h1 with
   | eG=>
    by_cases hn:n=0
    ·rw[if_pos hn]at hk
     subst hn
     have LI:vs = []:=a8 (by simpa using gV)
     have ig:(Builtin.append_ #[t,u] ty #[.slice none 0 0,uy]).run P w = .ok (.slice none 0 0) w:=by
      obtain⟨e',hu⟩:=hu
      have xQ:=lW w fun _=>rfl
      rw[LI]at xQ
      rw[o5]at xQ ⊢
      simp[Builtin.append_,run_underlying ht,run_underlying hu,sizeOf,typeInfo,hi,Builtin.lenOf,xQ]
     exact⟨_,_,ig,.plain h hk .eG⟩
    ·rw[if_neg hn]at hk
     obtain⟨⟨oE,zt⟩,hk⟩:=hk
     have hold:(Builtin.firstCells i.size 0 (.slice none 0 0)).run P w.drew = .ok ([]:List Value).toArray w.drew:=Kl (by simp) (fun _=>rfl) (fun _ _ j v hj=>by simp at hj)
     have ig:=MP (w:=w) (ty:=ty) ht hu hi Cr none 0 0 uy yb n yc o5 [] vs hold (lW _ fun _=>rfl) (by omega) (by omega) (by simpa using oE)
     simp only[aU]at ig
     refine⟨_,_,ig,?_⟩
     have uK:=grownCap_ge w n 0 e
     have om:=grownCap_le_maxLen w n 0 e (by unfold maxLen;omega)
     have gH:(([]:List Value).toArray++vs.toArray++Builtin.zeroCells zv.cells (grownCap w n 0 e-n)).size=grownCap w n 0 e*i.size:=by
      simp only[cE,dj,cA,gV,size_zeroCells,tD,aU,← bg]
      congr 1;omega
     obtain⟨L,e1,e2,e3,e4,e5,e6⟩:=CS h w.drew (jq.drew w) e vs ys vs.length (([]:List Value).toArray++vs.toArray++Builtin.zeroCells zv.cells (grownCap w n 0 e-n)) (gg _).rX jH (by
      simp only[c7,bt]
      exact List.take_left) (by simp only[cE,dj];omega)
     have hp:=IP (c:=c) (w:=w.drew.alloc (.cells (([]:List Value).toArray++vs.toArray++Builtin.zeroCells zv.cells (grownCap w n 0 e-n)) e)) e1 e3 al.1 0 i.size n (grownCap w n 0 e) (by rw[e4,gH]) uK om
     rw[e2]at hp
     exact⟨_,_,_,hk,e5,hp,e6⟩
  ·exact hk.elim
 ·exact hk.elim
def aeO(h:e9 G c H w){t u ty e:TypeId}{sz:Nat}(ht:P.underlying t=some (.slice e))(hs:jL P e=some sz)(jm:0<sz){x y:D}{ux uy:Value}(h1:eJ c w ux x)(h2:eJ c w uy y)(hk:Bw sz x y H K) :
  ∃ r w',(Builtin.copy_ #[t,u] ty #[ux,uy]).run P w = .ok r w'∧iv G c H w K r w':=by
 have key:∀ (ys:List D) (n:Nat),kY sz H y=some (ys,n)→∃ vs yb yc,uy = .slice yb n yc∧Cells c w vs ys∧ys.length=n*sz∧∀ m,m≤n→(Builtin.firstCells sz m uy).run P w = .ok (vs.take (m*sz)).toArray w:=by
  intro ys n pF
  obtain⟨yb,yc,vs,o5,jH,jP,QR,Cp,Co⟩:=M0 h jm h2 pF
  refine⟨vs,yb,yc,o5,jH,jP,fun m hm=>?_⟩
  have gV:vs.length=n*sz:=by rw[jH.len,jP]
  have hle:=bq sz hm
  rw[o5]
  cases yb with
  | none=>
   have:=Cp rfl
   subst this
   have:m=0:=by omega
   subst this
   simp[Builtin.firstCells]
  | some ad=>
   refine run_firstCells_some w sz m ad n yc _ (by simp;omega) (fun j v hj=>?_)
   rw[aA]at hj
   split at hj
   ·exact Co ad rfl j v hj
   ·cases hj
 unfold Bw at hk
 split at hk
 ·rename_i v g fV off len ys n pF
  obtain⟨vs,yb,yc,o5,jH,jP,K5⟩:=key ys n pF
  split at hk
  ·rename_i t' cs gq
   have hv:=rW gq
   dsimp only at hv
   obtain⟨⟨rfl,lV⟩,hk⟩:=hk
   have hf:=K5 (min n len) (Nat.min_le_left _ _)
   have hle:min n len*fV≤vs.length:=by rw[jH.len,jP];exact bq _ (Nat.min_le_left _ _)
   have al6:min n len*fV≤len*fV:=bq _ (Nat.min_le_right _ _)
   rw[bg]at lV
   cases h1 with
   | eF _ _ _ _ _ cap L eR gE js jO lY=>
    obtain⟨arr,zx,KN,WU,KQ⟩:=wA h hv eR gE
    have eX:=run_storeCells_at P L.b (L.base+off*fV) t' (vs.take (min n len*fV)) 0 arr w zx (by simp;omega) (fun v hv=>jH.one v (aJ hv))
    simp only[cc]at eX
    have ig:(Builtin.copy_ #[t,u] ty #[.slice (some ⟨L.b,L.base+off*fV,none⟩) len cap,uy]).run P w = .ok (goInt (min n len:Nat)) (w.setRow L.b (arr.toList.take (L.base+off*fV)++vs.take (min n len*fV)++arr.toList.drop (L.base+off*fV+(vs.take (min n len*fV)).length)).toArray):=by
     rw[o5]at hf ⊢
     have hm:n.min len=min n len:=rfl
     simp[Builtin.copy_,run_underlying ht,Builtin.lenOf,qz hs,hm,hf,eX]
    have gV:(vs.take (min n len*fV)).length=min n len*fV:=by simp;omega
    have PR:=KQ.p7 (jH.take (min n len*fV)) (off*fV)
    have Y8:(ys.take (min n len*fV)).length=min n len*fV:=by rw[aT,← jH.len];omega
    obtain⟨m1,m2⟩:=DJ h hv eR gE zx (arr.toList.take (L.base+off*fV)++vs.take (min n len*fV)++arr.toList.drop (L.base+off*fV+(vs.take (min n len*fV)).length)).toArray (by simp;omega) KN
     (cs.take (off*fV)++ys.take (min n len*fV)++cs.drop (off*fV+min n len*fV)) (by simp only[ay,aT,bw];omega) (fun j d hd=>by
      rw[Y8,gV]at PR
      obtain⟨x,hx,o6,lJ⟩:=PR.get hd
      refine⟨x,?_,o6,lJ⟩
      rw[← hx]
      simp only[cT,gV]
      have iR:(List.take (L.base+off*fV) arr.toList).length=L.base+off*fV:=by simp;omega
      have iA:(List.take (off*fV) (List.take cs.length (List.drop L.base arr.toList))).length=off*fV:=by simp;omega
      by_cases c1:j<off*fV
      ·rw[ag (by simp;omega),ag (by rw[iR];omega),ag (by simp;omega),ag (by rw[iA];omega)]
       simp only[aA,aD]
       rw[if_pos (by omega),if_pos c1,if_pos (by omega)]
      ·by_cases c2:j<off*fV+min n len*fV
       ·rw[ag (by rw[ay,iR,gV];omega),ak (by rw[iR];omega),ag (by rw[ay,iA,gV];omega),ak (by rw[iA];omega),iR,iA]
        congr 1
        omega
       ·have nO:j<cs.length:=by have:=(af.1 hd).1;simp at this;omega
        rw[ak (by rw[ay,iR,gV];omega),ak (by rw[ay,iA,gV];omega)]
        simp only[aD,aA,ay,iR,iA,gV]
        rw[if_pos (by omega)]
        congr 1
        omega)
    exact⟨_,_,ig,_,_,c,hk,m1,.val _,m2⟩
   | mm _ _ _ _ L eR ad=>
    have B5:min n 0=0:=eE n
    simp only[B5,cw,dF,aw,cc,bC]at hk hf
    have mA:H.set v (.row t' g cs)=H:=by
     apply bP
     intro j
     rw[bO]
     have gV:v<H.length:=(af.1 hv).1
     split
     ·rename_i e
      subst e
      first|(rw[if_pos gV];exact hv.symm)|exact hv.symm
     ·rfl
    rw[mA]at hk
    refine⟨goInt 0,w,?_,.plain h hk (.val _)⟩
    rw[o5]at hf ⊢
    have hm:n.min 0=0:=eE n
    simp[Builtin.copy_,run_underlying ht,Builtin.lenOf,qz hs,hm,hf]
    cases ad<;>simp[storeCells]
  ·exact hk.elim
 ·rename_i q pF
  obtain⟨ys,n⟩:=q
  obtain⟨vs,yb,yc,o5,jH,jP,K5⟩:=key ys n pF
  cases h1 with
  | eG=>
   have hf:=K5 0 (Nat.zero_le _)
   refine⟨goInt 0,w,?_,.plain h hk (.val _)⟩
   rw[o5]at hf ⊢
   have hm:n.min 0=0:=eE n
   simp only[cw,dF]at hf
   simp[Builtin.copy_,run_underlying ht,Builtin.lenOf,qz hs,hm,hf]
 ·exact hk.elim
end
end Go.AL
namespace Go.AL
open Go
section
variable{P:Program}{G:GT}{c:Ctx}{H:U}{w:World}{K:iO}{env:fQ}{a:Act}
def Q8{x:D}{kv u:Value}(hr:eJ c w u x)(h:keyOf x=some kv):u=kv:=by
 unfold keyOf at h
 split at h
 ·cases h;cases hr;rfl
 ·cases h;cases hr;rfl
 ·cases h;cases hr;rfl
 ·rename_i cs
  simp only[ai]at h
  obtain⟨l,hl,rfl⟩:=h
  cases hr with
  | agg vs _ hlen _ h1=>
   have key:∀ (cs:List D) (vs l:List Value),Cz cs=some l→vs.length=cs.length→(∀ (i:Nat) (v:Value) (d:D),vs[i]? = some v→cs[i]? = some d→eJ c w v d)→vs=l:=by
    intro cs
    induction cs with
    | nil=>intro vs l hl hlen _;simp[Cz]at hl;subst hl;exact a8 (by simpa using hlen)
    | cons d cs ih=>
     intro vs l hl hlen h1
     cases vs with
     | nil=>simp at hlen
     | cons v vs=>
      unfold Cz at hl
      split at hl
      ·rename_i heq;cases heq
      ·rename_i k n r heq
       cases heq
       simp only[ai]at hl
       obtain⟨l',mi,rfl⟩:=hl
       have h0:=h1 0 v _ rfl rfl
       cases h0
       rw[ih vs l' mi (by simpa using hlen) (fun i v d hv hd=>h1 (i+1) v d (by simpa using hv) (by simpa using hd))]
      ·cases hl
   rw[key cs vs l hl hlen h1]
 ·cases h
def M7{t:TypeId}{kk:KK}(h:tF P t=some kk):∃ d,P.underlying t=some d∧((∃ k,d = .int k∧kk = .int k)∨(d = .string∧kk = .str)∨(d = .bool∧kk = .bool)):=by
 unfold tF at h
 split at h
 ·rename_i k hu;cases h;exact⟨_,hu,.inl ⟨k,rfl,rfl⟩⟩
 ·rename_i hu;cases h;exact⟨_,hu,.inr (.inl ⟨rfl,rfl⟩)⟩
 ·rename_i hu;cases h;exact⟨_,hu,.inr (.inr ⟨rfl,rfl⟩)⟩
 ·cases h
def run_checkKey{t:TypeId}{kk:KK}(h:tF P t=some kk)(b:Bool){kv:Value}(_hk:kk.has kv=true)(w:World):(Instr.checkKey b 10000 t kv).run P w = .ok () w:=by
 obtain⟨d,hd,hc⟩:=M7 h
 unfold Instr.checkKey
 rcases hc with⟨k,rfl,rfl⟩|⟨rfl,rfl⟩|⟨rfl,rfl⟩<;>simp only[Sem.run_bind,run_underlying hd,Result.andThen_ok]<;>rfl
def su(kv:Value):List MapEntry→Nat→Option (Nat×Value)
 | [],_=>none
 | e::es,i=>if o9 kv e.key then some (i,e.val)else su kv es (i+1)
def V7{d:TypeDesc}{kk:KK}(hc:(∃ k,d = .int k∧kk = .int k)∨(d = .string∧kk = .str)∨(d = .bool∧kk = .bool)){kv:Value}(hk:kk.has kv=true) :
  ∀ (es:List MapEntry) (i:Nat),(∀ e∈es,kk.has e.key=true)→Instr.findNow d kv es i=some (su kv es i):=by
 intro es
 induction es with
 | nil=>intro i _;rfl
 | cons e es ih=>
  intro i h
  have he:=h e (by simp)
  have Zl:=ih (i+1) (fun e he=>h e (by simp[he]))
  unfold Instr.findNow su
  have hs:Instr.sameNow d kv e.key=some (o9 kv e.key):=by
   obtain⟨key,val,born⟩:=e
   rcases hc with⟨k,rfl,rfl⟩|⟨rfl,rfl⟩|⟨rfl,rfl⟩<;>cases kv<;>simp[KK.has]at hk<;>cases key<;>simp[KK.has]at he<;>simp[Instr.sameNow,o9]
   subst hk;subst he;simp
  rw[hs]
  cases o9 kv e.key
  ·simp only[Zl];rfl
  ·rfl
def run_findKey{t:TypeId}{kk:KK}(h:tF P t=some kk){kv:Value}(hk:kk.has kv=true)(es:List MapEntry)(rE:∀ e∈es,kk.has e.key=true)(w:World) :
  (Instr.findKey t kv es).run P w = .ok (su kv es 0) w:=by
 obtain⟨d,hd,hc⟩:=M7 h
 simp[Instr.findKey,run_underlying hd,V7 hc hk es 0 rE]
def RA{arr:Array MapEntry}{clock:Nat}{es:List (Value×D)}(hm:A6 c w arr clock es){kk:KK}(hk:∀ x∈es,kk.has x.1=true):∀ e∈arr.toList,kk.has e.key=true:=by
 intro e he
 obtain⟨i,hi⟩:=aF.1 he
 have hl:i<es.length:=by rw[← hm.1];have:=(af.1 hi).1;simpa using this
 obtain⟨h1,_⟩:=hm.2.1 i e es[i] (by simpa using hi) (by simp[hl])
 rw[h1]
 exact hk _ (bJ hl)
theorem Kk(kv:Value):∀ (l:List MapEntry) (es:List (Value×D)) (i:Nat),l.length=es.length →
  (∀ (j:Nat) (e:MapEntry) (x:Value×D),l[j]? = some e→es[j]? = some x→e.key=x.1∧eJ c w e.val x.2) →
  (su kv l i=none∧lL es kv=none∧∀ y,ke es kv y=es ++ [(kv,y)]) ∨
  (∃ j v d,su kv l i=some (i+j,v)∧lL es kv=some d∧eJ c w v d∧j<l.length∧(∀ y,ke es kv y=es.set j (kv,y))∧∃ e,l[j]? = some e∧o9 kv e.key=true)
 | [],[],i,_,_=>.inl ⟨rfl,rfl,fun _=>rfl⟩
 | e::l,(k,d)::es,i,hl,h=>by
  obtain⟨hk,hr⟩:=h 0 e (k,d) rfl rfl
  dsimp only at hk hr
  by_cases he:o9 kv e.key=true
  ·refine .inr ⟨0,e.val,d,by simp[su,he],by simp[lL,← hk,he],hr,by simp,fun y=>by simp[ke,← hk,he],e,rfl,he⟩
  ·have xD:o9 kv k=false:=by rw[← hk];simpa using he
   rcases Kk kv l es (i+1) (by simpa using hl) (fun j e x he hx=>h (j+1) e x (by simpa using he) (by simpa using hx))with⟨h1,h2,h3⟩|⟨j,v,d',h1,h2,h3,h4,h5,e',h6,h7⟩
   ·exact .inl ⟨by simp[su,he,h1],by simp[lL,xD,h2],fun y=>by simp[ke,xD,h3]⟩
   ·exact .inr ⟨j+1,v,d',by simp[su,he,h1];omega,by simp[lL,xD,h2],h3,by simp;omega,fun y=>by simp[ke,xD,h5],e',by simpa using h6,h7⟩
def aeZ(h:e9 G c H w){t k e:TypeId}{kk:KK}{z:D}(hu:P.underlying t=some (.map k e))(ky:tF P k=some kk)(hz:Nj P e=some z)(ok:Bool){m x:D}{u v:Value}(h1:eJ c w u m)(h2:eJ c w v x)
  (hk:CG kk z ok m x H K):∃ r,(Instr.lookup t u v ok).run P w = .ok r w∧iv G c H w K r w:=by
 have hzero:∃ zv,(zeroValue e).run P w = .ok zv w∧eJ c w zv z:=by
  unfold Nj at hz
  cases hi:P.info? e with
  | none=>simp[hi]at hz
  | some i=>
   simp only[hi,Option.bind_some]at hz
   cases LN:i.zero with
   | none=>simp[LN]at hz
   | some zv=>
    simp only[LN,Option.bind_some]at hz
    exact⟨zv,by simp[zeroValue,run_typeInfo hi,LN],Sr hz⟩
 obtain⟨zv,uV,QS⟩:=hzero
 unfold CG at hk
 split at hk
 ·rename_i v0 kv Ld
  split at hk
  ·rename_i qv es rE
   obtain⟨rfl,xG,hk⟩:=hk
   have hv:=Q8 h2 Ld
   subst hv
   cases h1 with
   | fE _ L eR gE=>
    have gA:=h.ob v0 _ (wm rE)
    simp only[Ob.gen]at gA
    rw[eR]at gA
    simp only[gd]at gA
    obtain⟨_,HP,arr,clock,hm,nP⟩:=gA
    have HJ:=run_findKey ky xG arr.toList (RA nP HP) w
    have HH:=run_checkKey (w:=w) ky arr.isEmpty xG
    have ig:(Instr.lookup t (.map (some L.b)) v ok).run P w=((match su v arr.toList 0 with
      | some (_,v)=>Result.ok (v,true) w
      | none=>Result.ok (zv,false) w:Result (Value×Bool)).andThen fun p w=>.ok (if ok then .tuple #[p.1,.bool p.2]else p.1) w):=by
     have BY:(getObj L.b).run P w = .ok (.map arr clock) w:=by simp[getObj,Sem.run,hm]
     simp only[Instr.lookup,Sem.run_bind,run_underlying hu,Result.andThen_ok,BY,Sem.run_pure,HH,HJ]
     cases su v arr.toList 0 with
     | none=>simp[uV]
     | some p=>obtain⟨_,_⟩:=p;simp
    rcases Kk (c:=c) (w:=w) v arr.toList es 0 (by simpa using nP.1) (fun j e x he hx=>let ⟨a,b,_⟩:=nP.2.1 j e x (by simpa using he) hx;⟨a,b⟩)with⟨f1,f2,_⟩|⟨j,val,d,f1,f2,f3,_⟩
    ·rw[f1]at ig
     rw[f2]at hk
     refine⟨_,ig,.plain h hk ?_⟩
     cases ok
     ·exact QS
     ·exact .tup [zv,.bool false] [z,.val (.bool false)] rfl (fun i v d hv hd=>by
       match i with
       | 0=>simp at hv hd;subst hv;subst hd;exact QS
       | 1=>simp at hv hd;subst hv;subst hd;exact .val _
       | i+2=>simp at hv)
    ·rw[f1]at ig
     rw[f2]at hk
     refine⟨_,ig,.plain h hk ?_⟩
     cases ok
     ·exact f3
     ·exact .tup [val,.bool true] [d,.val (.bool true)] rfl (fun i v d' hv hd=>by
       match i with
       | 0=>simp at hv hd;subst hv;subst hd;exact f3
       | 1=>simp at hv hd;subst hv;subst hd;exact .val _
       | i+2=>simp at hv)
  ·exact hk.elim
 ·exact hk.elim
def af0{kk:KK}(ky:kk = .str∨kk = .bool∨∃ k,kk = .int k){old new:Value}(h1:kk.has new=true)(h2:kk.has old=true)(h:o9 new old=true):Instr.sameBits 10000 old new=true:=by
 rcases ky with rfl|rfl|⟨k,rfl⟩<;>cases new<;>simp[KK.has]at h1<;>cases old<;>simp[KK.has]at h2<;>simp[o9]at h<;>simp[Instr.sameBits]
 ·rename_i x y
  obtain⟨x⟩:=x
  obtain⟨y⟩:=y
  have h':(x == y)=true:=h
  have e:=eq_of_beq h'
  subst e
  exact h
 ·exact h.symm
 ·exact⟨h.1.symm,h.2.symm⟩
def DI{G:GT}{c:Ctx}{H:U}{w:World}(h:e9 G c H w){v:Nat}{ob ob':Ob}(hv:H[v]? = some ob)(ha:ob.alive=true)(qn:ob'.alive=true)(HM:ob'.gen=ob.gen){L:Loc}(eR:c.ι v ob.gen=some L)(gE:L.iM=false)(o':Obj)
  (gA:∀ w',w'.heap[L.b]? = some o'→(∀ u d,eJ c w u d→eJ c w' u d)→gd c w' (some L) ob') :
  e9 G c (H.set v ob') { w with heap:=w.heap.setIfInBounds L.b o' }∧Step H.length c H w c (H.set v ob') { w with heap:=w.heap.setIfInBounds L.b o' }:=by
 have fq:=h.lt _ ⟨v,L,⟨ob,hv,ha,eR⟩,gE,rfl⟩
 refine Tw (w':={ w with heap:=w.heap.setIfInBounds L.b o' }) h hv ha qn HM eR gE ⟨rfl,Nat.le_refl _⟩ rfl rfl (by simp) (fun b hb=>?_) (gA _ (by simp[fq]))
 rw[bF (dx hb)]
def aaw{es:List (Value×D)}{kv:Value}{y:D}:∀ x∈ke es kv y,x∈es∨x=(kv,y):=by
 induction es with
 | nil=>intro x hx;simp[ke]at hx;exact .inr hx
 | cons e es ih=>
  intro x hx
  obtain⟨k,d⟩:=e
  simp only[ke]at hx
  split at hx
  ·rcases au.1 hx with rfl|hx
   ·exact .inr rfl
   ·exact .inl (by simp[hx])
  ·rcases au.1 hx with rfl|hx
   ·exact .inl (by simp)
   ·rcases ih x hx with h|h
    ·exact .inl (by simp[h])
    ·exact .inr h
def RW(h:e9 G c H w){t k e:TypeId}{kk:KK}(hu:P.underlying t=some (.map k e))(ky:tF P k=some kk){m x y:D}{u v vy:Value}(h1:eJ c w u m)(h2:eJ c w v x)(h3:eJ c w vy y)
  (hk:CL kk m x y H K):∃ w',(Instr.mapUpdate t u v vy).run P w = .ok () w'∧iv G c H w K undef w':=by
 have Ym:kk = .str∨kk = .bool∨∃ k,kk = .int k:=by
  obtain⟨d,_,hc⟩:=M7 ky
  rcases hc with⟨k,_,rfl⟩|⟨_,rfl⟩|⟨_,rfl⟩
  ·exact .inr (.inr ⟨k,rfl⟩)
  ·exact .inl rfl
  ·exact .inr (.inl rfl)
 unfold CL at hk
 split at hk
 ·rename_i v0 kv Ld
  split at hk
  ·rename_i qv es rE
   obtain⟨rfl,xG,hk⟩:=hk
   have hv:=Q8 h2 Ld
   subst hv
   cases h1 with
   | fE _ L eR gE=>
    have gA:=h.ob v0 _ (wm rE)
    simp only[Ob.gen]at gA
    rw[eR]at gA
    simp only[gd]at gA
    obtain⟨_,HP,arr,clock,hm,nP⟩:=gA
    have PK:=RA nP HP
    have HJ:=run_findKey ky xG arr.toList PK w
    have HH:=run_checkKey (w:=w) ky false xG
    have P8:∀ y',∀ x∈ke es v y',qv.has x.1=true:=fun y' x hx=>by
     rcases aaw x hx with h|rfl
     ·exact HP x h
     ·exact xG
    rcases Kk (c:=c) (w:=w) v arr.toList es 0 (by simpa using nP.1) (fun j e x he hx=>let ⟨a,b,_⟩:=nP.2.1 j e x (by simpa using he) hx;⟨a,b⟩)with⟨f1,f2,f3⟩|⟨j,val,d,f1,f2,_,f4,f5,e',f6,f7⟩
    ·have ig:(Instr.mapUpdate t (.map (some L.b)) v vy).run P w = .ok () { w with heap:=w.heap.setIfInBounds L.b (.map (arr.push { key:=v,val:=vy,born:=clock }) (clock+1)) }:=by
      have BY:(getObj L.b).run P w = .ok (.map arr clock) w:=by simp[getObj,Sem.run,hm]
      simp only[Instr.mapUpdate,Sem.run_bind,run_underlying hu,Result.andThen_ok,BY,HH,HJ,f1]
      simp[setObj,Sem.run,hm]
     obtain⟨m1,m2⟩:=DI h (wm rE) rfl rfl rfl eR gE (.map (arr.push { key:=v,val:=vy,born:=clock }) (clock+1)) (ob':=.map qv (ke es v y)) (by
      intro w' sE hr
      simp only[gd]
      refine⟨gE,P8 y,_,_,sE,?_⟩
      rw[f3]
      refine⟨by simp[nP.1],fun i e x he hx=>?_,by simp[nP.2.2]⟩
      rw[Array.getElem?_push]at he
      split at he
      ·rename_i hi
       cases he
       rw[ak (by rw[hi,nP.1];exact Nat.le_refl _),hi,nP.1]at hx
       simp at hx
       subst hx
       exact⟨rfl,hr _ _ h3,by rw[hi,nP.1,nP.2.2]⟩
      ·have hi:i<es.length:=by rw[← nP.1];exact(aM.1 he).1
       rw[ag hi]at hx
       obtain⟨p,q,r⟩:=nP.2.1 i e x he hx
       exact⟨p,hr _ _ q,r⟩)
     exact⟨_,ig,.any,_,c,hk,m1,.any _,m2⟩
    ·have oG:j<arr.size:=by simpa using f4
     have uM:arr[j]? = some e':=by simpa using f6
     have XE:qv.has e'.key=true:=PK e' (bk f6)
     have YI:(Instr.keyThatStays e'.key v).run P w = .ok v w:=by
      simp[Instr.keyThatStays,af0 Ym xG XE f7]
     have ig:(Instr.mapUpdate t (.map (some L.b)) v vy).run P w = .ok () { w with heap:=w.heap.setIfInBounds L.b (.map (arr.modify j fun e=>{ e with key:=v,val:=vy }) clock) }:=by
      have BY:(getObj L.b).run P w = .ok (.map arr clock) w:=by simp[getObj,Sem.run,hm]
      simp only[Instr.mapUpdate,Sem.run_bind,run_underlying hu,Result.andThen_ok,BY,HH,HJ,f1,aU,uM,bn,aW,YI]
      simp[setObj,Sem.run,hm]
     obtain⟨m1,m2⟩:=DI h (wm rE) rfl rfl rfl eR gE (.map (arr.modify j fun e=>{ e with key:=v,val:=vy }) clock) (ob':=.map qv (ke es v y)) (by
      intro w' sE hr
      simp only[gd]
      refine⟨gE,P8 y,_,_,sE,?_⟩
      rw[f5]
      refine⟨by simp[nP.1],fun i e x he hx=>?_,by simp[nP.2.2]⟩
      ·rw[bL]at he
       rw[bO]at hx
       split at he
       ·rename_i hi
        subst hi
        rw[if_pos rfl]at hx
        simp only[ai]at he
        obtain⟨e0,h0,rfl⟩:=he
        split at hx
        ·cases hx
         have hj:j<es.length:=by rw[← nP.1];exact oG
         exact⟨rfl,hr _ _ h3,(nP.2.1 j e0 es[j] h0 (by simp[hj])).2.2⟩
        ·cases hx
       ·rename_i hi
        rw[if_neg hi]at hx
        obtain⟨p,q,r⟩:=nP.2.1 i e x he hx
        exact⟨p,hr _ _ q,r⟩)
     exact⟨_,ig,.any,_,c,hk,m1,.any _,m2⟩
  ·exact hk.elim
 ·exact hk.elim
end
end Go.AL
namespace Go.AL
open Go
section
variable{P:Program}{G:GT}{c:Ctx}{H:U}{w:World}{K:iO}{env:fQ}{a:Act}
def Z5{t:TypeId}{l:nX}(hl:x4 P t=some l)(d:Nat){x y:D}{u v:Value}(h1:eJ c w u x)(h2:eJ c w v y){r:Bool}(h:sf l x y=some r):(Op.equalIn (d+1) t u v).run P w = .ok r w:=by
 unfold sf at h
 split at h
 ·rename_i k m k' n
  cases h1;cases h2
  split at h
  ·rename_i e
   subst e
   cases h
   unfold x4 at hl
   split at hl
   ·rename_i k0 hu;exact run_equalIn_int w d t k k0 m n hu
   ·cases hl
   ·cases hl
   ·cases hl
  ·cases h
 ·cases h1;cases h2
  cases h
  unfold x4 at hl
  split at hl
  ·cases hl
  ·cases hl
  ·rename_i hu;exact run_equalIn_bool' w d t _ _ hu
  ·cases hl
 ·cases h1;cases h2
  cases h
  rename_i p q
  unfold x4 at hl
  split at hl
  ·cases hl
  ·rename_i hu
   have:=run_equalIn_string (P:=P) w d t p q hu
   rw[ByteArray.toList_eq,ByteArray.toList_eq]at this
   exact this
  ·cases hl
  ·cases hl
 ·cases h
def Z4{t:TypeId}{l:nX}(hl:x4 P t=some l):oz P t=some false:=by
 unfold x4 at hl
 unfold oz
 split at hl<;>first|(rename_i hu;simp[hu])|(rename_i k hu;simp[hu])|cases hl
theorem OZ(d:Nat){vs us:List Value}{xs ys:List D}(hx:Cells c w vs xs)(hy:Cells c w us ys):∀ (fs:List Field) (i:Nat) (ls:List nX) (r:Bool),Ha P i fs=some ls→nI ls (xs.drop i) (ys.drop i)=some r →
  (Op.eqFields (d+1) vs.toArray us.toArray fs).run P w = .ok r w
 | [],i,ls,r,he,hc=>by
  cases he
  unfold nI at hc
  split at hc
  ·cases hc;rfl
  ·rename_i heq _ _;cases heq
  ·cases hc
 | f::fs,i,ls,r,he,hc=>by
  simp only[Ha]at he
  split at he
  ·rename_i l ls' hl B4
   split at he
   ·rename_i iG
    obtain⟨o4,XZ⟩:=iG
    cases he
    cases Cn:xs.drop i with
    | nil=>rw[Cn]at hc;simp[nI]at hc
    | cons x xr=>
     cases Ie:ys.drop i with
     | nil=>rw[Cn,Ie]at hc;simp[nI]at hc
     | cons y yr=>
      rw[Cn,Ie]at hc
      simp only[nI]at hc
      split at hc
      ·rename_i p q hp hq
       cases hc
       have YZ:xs[i]? = some x:=by have:=congrArg (·[0]?) Cn;simpa using this
       have Y7:ys[i]? = some y:=by have:=congrArg (·[0]?) Ie;simpa using this
       have Y1:xs.drop (i+1)=xr:=by rw[← cU,Cn];rfl
       have Za:ys.drop (i+1)=yr:=by rw[← cU,Ie];rfl
       obtain⟨u,hu,_,YP⟩:=hx.get YZ
       obtain⟨v,hv,_,LG⟩:=hy.get Y7
       have ih:=OZ d hx hy fs (i+1) ls' q B4 (by rw[Y1,Za];exact hq)
       have hle:=Z5 (w:=w) hl d YP LG hp
       have ha:=Di (Z4 hl) w
       have uP:(part f.type vs.toArray f.offset).run P w = .ok u w:=by simp[part,ha,o4,hu]
       have zK:(part f.type us.toArray f.offset).run P w = .ok v w:=by simp[part,ha,o4,hv]
       simp only[Op.eqFields,if_pos XZ,Sem.run_bind,uP,zK,Result.andThen_ok,hle,Sem.run_ite,ih]
       cases p<;>simp
      ·cases hc
   ·cases he
  ·cases he
def RV(h:e9 G c H w){t:TypeId}{ls:List nX}(ht:Hb P t=some ls)(neg:Bool){x y:D}{u v:Value}(h1:eJ c w u x)(h2:eJ c w v y)(hk:vJ true ls neg x y H K)(xo yo:Operand) :
  ∃ r,(do eqGuard (if neg then .neq else .eql) t xo yo u v;binOp (if neg then .neq else .eql) t u v).run P w = .ok r w∧iv G c H w K r w:=by
 unfold Hb at ht
 split at ht
 ·rename_i fs hu
  split at ht
  ·rename_i iG
   have hf:P.underlying t=some (.struct (P.fieldsOf t)):=by unfold Program.fieldsOf;rw[hu]
   have Xn:P.fieldsOf t=fs:=by unfold Program.fieldsOf;rw[hu]
   have hx:∃ cs ds,x = .agg cs∧y = .agg ds:=by
    unfold vJ at hk
    split at hk
    ·exact⟨_,_,rfl,rfl⟩
    ·contradiction
    ·exact hk.elim
   obtain⟨cs,ds,rfl,rfl⟩:=hx
   simp only[vJ]at hk
   split at hk
   ·rename_i r hr
    cases h1 with
    | agg vs _ iR BN Wv=>
     cases h2 with
     | agg us _ iA Wx Wy=>
      have Xe:Cells c w vs cs:=⟨iR,BN,Wv⟩
      have Xf:Cells c w us ds:=⟨iA,Wx,Wy⟩
      have ig:=OZ (P:=P) 9998 Xe Xf fs.toList 0 ls r ht (by simpa using hr)
      have heq:(Op.equalIn 10000 t (.agg vs.toArray) (.agg us.toArray)).run P w = .ok r w:=by
       rw[run_equalIn_struct w 9999 t vs.toArray us.toArray hf iG.1,Xn]
       exact ig
      cases neg
      ·simp only[bG,if_false,Sem.run_bind,run_eqGuard_agg w .eql t xo yo vs.toArray us.toArray iG.2,Result.andThen_ok,run_eql_struct,heq]
       exact⟨_,rfl,.val h (by simpa using hk)⟩
      ·simp only[if_true,Sem.run_bind,run_eqGuard_agg w .neq t xo yo vs.toArray us.toArray iG.2,Result.andThen_ok,run_neq_struct,heq]
       exact⟨_,rfl,.val h (by simpa using hk)⟩
   ·exact hk.elim
  ·cases ht
 ·cases ht
def RU(h:e9 G c H w){t:TypeId}(hu:P.underlying t=some .bool)(neg:Bool){x y:D}{u v:Value}(h1:eJ c w u x)(h2:eJ c w v y)(hk:vJ false [.bool] neg x y H K)(xo yo:Operand) :
  ∃ r,(do eqGuard (if neg then .neq else .eql) t xo yo u v;binOp (if neg then .neq else .eql) t u v).run P w = .ok r w∧iv G c H w K r w:=by
 simp only[vJ]at hk
 split at hk
 ·rename_i r hr
  simp only[nI]at hr
  split at hr
  ·rename_i p q hp hq
   cases hq
   cases hr
   unfold sf at hp
   split at hp
   ·contradiction
   ·cases h1;cases h2
    cases hp
    rename_i b b' _
    have heq:=run_equalIn_bool' (P:=P) w 9999 t b b' hu
    have gD:Op.equal t (.bool b) (.bool b')=Op.equalIn 10000 t (.bool b) (.bool b'):=rfl
    cases neg
    ·exact⟨_,by simp[eqGuard,binOp,gD,heq]<;>rfl,.val h (by simpa using hk)⟩
    ·exact⟨_,by simp[eqGuard,binOp,gD,heq]<;>rfl,.val h (by simpa using hk)⟩
   ·contradiction
   ·cases hp
  ·cases hr
 ·exact hk.elim
def Ja{f:FuncId}(h:qj P f=true)(args:Array Value)(w:World):(callFunc f args).run P w = .ok (.enter f args) w:=by
 unfold qj at h
 split at h
 ·rename_i fn hf
  simp only[ah,bne_iff_ne,ne_eq]at h
  have hb:fn.body.isNone=false:=by cases hb:fn.body<;>simp[hb]at h ⊢
  simp[callFunc,hf,h.1]
  intro e
  rw[e]at hb
  cases hb
 ·cases h
end
end Go.AL
namespace Go.AL
open Go
section
variable{P:Program}{G:GT}{c:Ctx}{H:U}{w:World}{K:iO}{env:fQ}{a:Act}
def y5(r:Result Next)(v:Value)(w':World):Prop:=r = .ok (.value v) w'∨(r = .ok .skip w'∧v=undef)
def iX{s:Sem Value}{v:Value}{w':World}(h:s.run P w = .ok v w'):y5 ((do pure (.value (← s)):Sem Next).run P w) v w':=.inl (by simp[h])
def Jz{s:Sem Unit}{w':World}(h:s.run P w = .ok () w'):y5 ((do s;pure .skip:Sem Next).run P w) undef w':=.inr ⟨by simp[h],rfl⟩
def aeN(h:e9 G c H w){s d:TypeId}{sd:TypeDesc}{k:IntKind}(hs:P.underlying s=some sd)(hd:P.underlying d=some (.int k)){x:D}{u:Value}(h1:eJ c w u x)
  (hk:Bt k x H K):∃ r,(convert s d u).run P w = .ok r w∧iv G c H w K r w:=by
 unfold Bt at hk
 split at hk
 ·rename_i k' n
  cases h1
  have K8:P.intKind d=k:=by simp[Program.intKind,hd]
  have:=run_convert_int (P:=P) w s d k' n (by rw[hs];rfl) (by rw[K8];exact hd)
  rw[K8]at this
  exact⟨_,this,.val h hk⟩
 ·exact hk.elim
def ae4(h:e9 G c H w){o:Oper}{x:Operand}(ho:o.op = .nilCheck x){d:D}(h1:eJ c w (a.eval x) d)
  (hk:CU d H K):∃ v w',y5 ((execOp a.eval o).run P w) v w'∧iv G c H w K v w':=by
 have key:∀ v,a.eval x=v→(match v with | .pointer (some _)=>True | .func (.func _) _ _=>True | .func (.yield _) _ _=>True|_=>False)→y5 ((execOp a.eval o).run P w) v w:=by
  intro v hv hm
  refine .inl ?_
  simp only[execOp,ho,hv]
  split at hm<;>simp_all
 generalize hv:a.eval x=v at h1
 unfold CU at hk
 split at hk
 ·cases h1 with
  | ptr _ _ _ L eR lZ=>exact⟨_,w,key _ hv trivial,.plain h hk (.ptr _ _ _ L eR lZ)⟩
 ·obtain⟨b,p,e,hF,hc⟩:=w9 h1
  subst e
  exact⟨_,w,key _ hv trivial,.plain h hk h1⟩
 ·cases h1 with
  | fn f fs cs df dc e1 e2 e3 e4=>exact⟨_,w,key _ hv trivial,.plain h hk (.fn _ fs cs _ _ e1 e2 e3 e4)⟩
 ·cases h1 with
  | ic _ L eR lZ=>exact⟨_,w,key _ hv trivial,.plain h hk (.ic _ L eR lZ)⟩
 ·exact hk.elim
def MF{l:Array Operand}{xs:List D}(h:iy c w (l.toList.map a.eval) xs):∃ vs:List Value,l.map a.eval=vs.toArray∧iy c w vs xs:=
 ⟨_,by cases l;simp,h⟩
def tU{o:Oper}{cl:Call}(ho:o.op = .call cl){b:Builtin}(hb:cl.callee = .builtin b):(execOp a.eval o).run P w=(builtin b cl.argTypes o.type (cl.args.map fun | .const _=>true|_=>false) (cl.args.map a.eval)).run P w:=by
 simp only[execOp,ho,resolve,hb,Sem.run_bind,Sem.run_pure,Result.andThen_ok,invoke]
 rfl
def Sf(h:e9 G c H w)(he:jW c w env a){al:Al}(gg:ma H al){o:Oper}{io:gP}(hc:mr P G o=some io)(hk:A' env H al K io) :
  ∃ v w',y5 ((execOp a.eval o).run P w) v w'∧iv G c H w K v w':=by
 unfold mr at hc
 cases ho:o.op with
 | move x=>
  simp only[ho,ax,ae,aG,ar]at hc
  obtain⟨X,hX,rfl⟩:=hc
  exact⟨_,w,.inl (by simp only[execOp,ho];rfl),.plain h hk (gX h he hX)⟩
 | assign x=>
  simp only[ho,ax,ae,aG,ar]at hc
  obtain⟨X,hX,rfl⟩:=hc
  exact⟨_,w,.inl (by simp only[execOp,ho];rfl),.plain h hk (gX h he hX)⟩
 | pick x y z=>
  simp only[ho,ax,ae,aG,ar]at hc
  obtain⟨X,hX,Y,hY,Z,hZ,rfl⟩:=hc
  obtain⟨b,hb,hp⟩:=ae5 h (gX h he hX) (gX h he hY) (gX h he hZ) hk
  exact⟨_,w,.inl (by simp[execOp,ho,hb];rfl),hp⟩
 | box e x=>
  simp only[ho,ax,ae,aG,ar]at hc
  obtain⟨X,hX,rfl⟩:=hc
  obtain⟨r,w',hr,hp⟩:=aeH (P:=P) h gg e (gX h he hX) hk
  exact⟨r,w',by simp only[execOp,ho];exact iX hr,hp⟩
 | alloc e=>
  simp only[ho,ax,ae,aG,ar]at hc
  obtain⟨z,hz,rfl⟩:=hc
  obtain⟨r,w',hr,hp⟩:=aeC (P:=P) h gg hz hk
  exact⟨r,w',by simp only[execOp,ho];exact iX hr,hp⟩
 | build t ps=>
  simp only[ho,ax,ae]at hc
  obtain⟨z,hz,l,hl,hc⟩:=hc
  split at hc
  ·rename_i fs hu
   split at hc
   ·rename_i hf
    simp only[ae,aG,ar]at hc
    obtain⟨qs,hq,rfl⟩:=hc
    obtain⟨r,hr,hp⟩:=aeI h he hz hl hu hf hq hk
    exact⟨r,w,by simp only[execOp,ho];exact iX hr,hp⟩
   ·cases hc
  ·rename_i n e hu
   simp only[ae,aG,ar]at hc
   obtain⟨sz,hs,rfl⟩:=hc
   obtain⟨r,hr,hp⟩:=aeJ h he hz hl hu hs hk
   exact⟨r,w,by simp only[execOp,ho];exact iX hr,hp⟩
  ·cases hc
 | buildSlice t n ps=>
  simp only[ho,ax,ae]at hc
  obtain⟨td,hu,hc⟩:=hc
  split at hc
  ·rename_i e
   simp only[ae]at hc
   obtain⟨z,hz,sz,hs,l,hl,hc⟩:=hc
   split at hc
   ·rename_i iG
    cases hc
    obtain⟨r,w',hr,hp⟩:=aeK (P:=P) h gg he hu hz hs hl iG.1 iG.2.1 iG.2.2 hk
    exact⟨r,w',by simp only[execOp,ho];exact iX hr,hp⟩
   ·cases hc
  ·cases hc
 | load t x=>
  simp only[ho,ax,ae]at hc
  obtain⟨X,hX,n,hn,b,hb,hc⟩:=hc
  cases b
  ·cases hc
   obtain⟨v,hv,hp⟩:=aeX h hb (gX h he hX) hk
   exact⟨v,w,by simp only[execOp,ho];exact iX hv,hp⟩
  ·cases hc
   obtain⟨v,hv,hp⟩:=aeY h hb hn (gX h he hX) hk
   exact⟨v,w,by simp only[execOp,ho];exact iX hv,hp⟩
 | store t x y=>
  simp only[ho,ax,ae]at hc
  obtain⟨X,hX,Y,hY,n,hn,b,hb,hc⟩:=hc
  cases b
  ·simp only[bG,if_false]at hc
   split at hc
   ·rename_i e
    subst e
    cases hc
    obtain⟨w',hv,hp⟩:=ae9 h hn (gX h he hX) (gX h he hY) hk
    exact⟨_,w',by simp only[execOp,ho];exact Jz hv,hp⟩
   ·cases hc
  ·cases hc
   obtain⟨w',hv,hp⟩:=afa h hn (gX h he hX) (gX h he hY) hk
   exact⟨_,w',by simp only[execOp,ho];exact Jz hv,hp⟩
 | nilCheck x=>
  simp only[ho,ax,ae,aG,ar]at hc
  obtain⟨X,hX,rfl⟩:=hc
  exact ae4 h ho (gX h he hX) hk
 | binOp op t x y yt=>
  simp only[ho,ax,ae]at hc
  obtain⟨X,hX,Y,hY,hc⟩:=hc
  have r1:=gX h he hX
  have r2:=gX h he hY
  split at hc
  ·split at hc
   ·rename_i hb
    cases hc
    obtain⟨v,hv,hp⟩:=RU (P:=P) h (by unfold Gx at hb;split at hb<;>first|assumption|cases hb) false r1 r2 hk x y
    exact⟨v,w,by simp only[execOp,ho];exact iX hv,hp⟩
   ·split at hc
    ·cases hc
     obtain⟨v,hv,hp⟩:=Mt (P:=P) h r1 r2 hk t x y
     exact⟨v,w,by simp only[execOp,ho];exact iX hv,hp⟩
    ·simp only[ae,aG,ar]at hc
     obtain⟨ls,B4,rfl⟩:=hc
     obtain⟨v,hv,hp⟩:=RV (P:=P) h B4 false r1 r2 hk x y
     exact⟨v,w,by simp only[execOp,ho];exact iX hv,hp⟩
  ·split at hc
   ·rename_i hb
    cases hc
    obtain⟨v,hv,hp⟩:=RU (P:=P) h (by unfold Gx at hb;split at hb<;>first|assumption|cases hb) true r1 r2 hk x y
    exact⟨v,w,by simp only[execOp,ho];exact iX hv,hp⟩
   ·split at hc
    ·cases hc
     obtain⟨v,hv,hp⟩:=Mt (P:=P) h r1 r2 hk t x y
     exact⟨v,w,by simp only[execOp,ho];exact iX hv,hp⟩
    ·simp only[ae,aG,ar]at hc
     obtain⟨ls,B4,rfl⟩:=hc
     obtain⟨v,hv,hp⟩:=RV (P:=P) h B4 true r1 r2 hk x y
     exact⟨v,w,by simp only[execOp,ho];exact iX hv,hp⟩
  ·cases hc
   obtain⟨v,hv,hp⟩:=Mt (P:=P) h r1 r2 hk t x y
   exact⟨v,w,by simp only[execOp,ho];exact iX hv,hp⟩
 | unOp op t x=>
  simp only[ho,ax,ae,aG,ar]at hc
  obtain⟨X,hX,rfl⟩:=hc
  obtain⟨v,hv,hp⟩:=afb (P:=P) h (gX h he hX) hk
  exact⟨v,w,by simp only[execOp,ho];exact iX hv,hp⟩
 | convert s d x=>
  simp only[ho,ax,ae]at hc
  obtain⟨X,hX,sd,hs,hc⟩:=hc
  split at hc
  ·rename_i k hd
   cases hc
   obtain⟨v,hv,hp⟩:=aeN (P:=P) h hs hd (gX h he hX) hk
   exact⟨v,w,by simp only[execOp,ho];exact iX hv,hp⟩
  ·rename_i hd
   simp only[ae]at hc
   obtain⟨sd2,mJ,hc⟩:=hc
   split at hc
   ·rename_i e
    simp only[ae]at hc
    obtain⟨ed,K3,hc⟩:=hc
    split at hc
    ·cases hc
     obtain⟨v,hv,hp⟩:=aeG (P:=P) h mJ K3 hd (gX h he hX) hk
     exact⟨v,w,by simp only[execOp,ho];exact iX hv,hp⟩
    ·cases hc
   ·cases hc
  ·cases hc
 | makeFunc f first cap=>
  simp only[ho,ax,ae,aG,ar]at hc
  obtain⟨X,hX,Y,hY,rfl⟩:=hc
  exact⟨_,w,.inl (by simp[execOp,ho,Instr.makeFunc]),ae0 h he hX hY hk⟩
 | makeMap t r=>
  cases r with
  | some r=>simp[ho]at hc
  | none=>
   simp only[ho,ax,ae]at hc
   obtain⟨td,hu,hc⟩:=hc
   split at hc
   ·simp only[ae,aG,ar]at hc
    obtain⟨kk,ky,rfl⟩:=hc
    obtain⟨v,w',hv,hp⟩:=ae1 (P:=P) h gg t kk hk
    exact⟨v,w',by simp only[execOp,ho];exact iX hv,hp⟩
   ·cases hc
 | lookup t x i ok=>
  simp only[ho,ax,ae]at hc
  obtain⟨td,hu,hc⟩:=hc
  split at hc
  ·simp only[ae,aG,ar]at hc
   obtain⟨z,hz,kk,ky,X,hX,Y,hY,rfl⟩:=hc
   obtain⟨v,hv,hp⟩:=aeZ (P:=P) h hu ky hz ok (gX h he hX) (gX h he hY) hk
   exact⟨v,w,by simp only[execOp,ho];exact iX hv,hp⟩
  ·cases hc
 | mapUpdate t m k x=>
  simp only[ho,ax,ae]at hc
  obtain⟨td,hu,hc⟩:=hc
  split at hc
  ·simp only[ae,aG,ar]at hc
   obtain⟨kk,ky,X,hX,Y,hY,Z,hZ,rfl⟩:=hc
   obtain⟨w',hv,hp⟩:=RW (P:=P) h hu ky (gX h he hX) (gX h he hY) (gX h he hZ) hk
   exact⟨_,w',by simp only[execOp,ho];exact Jz hv,hp⟩
  ·cases hc
 | insert t m k x=>
  simp only[ho,ax,ae]at hc
  obtain⟨td,hu,hc⟩:=hc
  split at hc
  ·simp only[ae,aG,ar]at hc
   obtain⟨kk,ky,X,hX,Y,hY,Z,hZ,rfl⟩:=hc
   obtain⟨w',hv,hp⟩:=RW (P:=P) h hu ky (gX h he hX) (gX h he hY) (gX h he hZ) hk
   exact⟨_,w',by simp only[execOp,ho];exact Jz hv,hp⟩
  ·cases hc
 | makeSlice t l m=>
  simp only[ho,ax,ae]at hc
  obtain⟨td,hu,hc⟩:=hc
  split at hc
  ·simp only[ae]at hc
   obtain⟨z,hz,i,hi,hc⟩:=hc
   split at hc
   ·rename_i iG
    simp only[ae,aG,ar]at hc
    obtain⟨X,hX,Y,hY,rfl⟩:=hc
    obtain⟨v,w',hv,hp⟩:=ae2 (P:=P) h gg hu hi hz iG.1 iG.2 (gX h he hX) (gX h he hY) hk
    exact⟨_,w',by simp only[execOp,ho];exact iX hv,hp⟩
   ·cases hc
  ·cases hc
 | slice t x lo hi mx=>
  cases mx with
  | some r=>simp[ho]at hc
  | none=>
   simp only[ho,ax,ae]at hc
   obtain⟨X,hX,L,hL,M,hM,hc⟩:=hc
   have r1:=gX h he hX
   split at hc
   ·rename_i e hu
    simp only[ae,aG,ar]at hc
    obtain⟨n,hn,rfl⟩:=hc
    obtain⟨v,hv,hp⟩:=ae7 (P:=P) h he hu hn hL hM r1 hk
    exact⟨v,w,by simp only[execOp,ho];exact iX hv,hp⟩
   ·rename_i hu
    cases hc
    have hs:∃ s,ev env X = .val (.string s):=by
     simp only[A']at hk
     unfold Ap at hk
     split at hk
     ·rename_i s e;exact⟨s,e⟩
     ·exact hk.elim
    obtain⟨s,hs⟩:=hs
    simp only[A']at hk
    rw[hs]at hk r1
    have QM:a.eval x = .string s:=by
     generalize a.eval x=u at r1
     cases r1;rfl
    obtain⟨v,hv,hp⟩:=ae8 (P:=P) h he hu hL hM hk
    exact⟨v,w,by simp only[execOp,ho,QM];exact iX hv,hp⟩
   ·cases hc
 | fieldAddr t x f=>
  simp only[ho,ax,ae]at hc
  obtain⟨X,hX,td,hu,hc⟩:=hc
  split at hc
  ·simp only[ae]at hc
   obtain⟨fd,hf,n,hn,hc⟩:=hc
   split at hc
   ·rename_i jm
    cases hc
    obtain⟨v,hv,hp⟩:=aeS (P:=P) h hu hf hn jm (gX h he hX) hk
    exact⟨v,w,by simp only[execOp,ho];exact iX hv,hp⟩
   ·cases hc
  ·cases hc
 | field t x f=>
  simp only[ho,ax,ae]at hc
  obtain⟨X,hX,td,hu,hc⟩:=hc
  split at hc
  ·simp only[ae,aG,ar]at hc
   obtain⟨fd,hf,n,hn,b,hb,rfl⟩:=hc
   obtain⟨v,hv,hp⟩:=aeR (P:=P) h hu hf hb hn (gX h he hX) hk
   exact⟨v,w,by simp only[execOp,ho];exact iX hv,hp⟩
  ·cases hc
 | indexAddr t x i=>
  simp only[ho,ax,ae]at hc
  obtain⟨X,hX,Y,hY,hc⟩:=hc
  split at hc
  ·rename_i e hu
   simp only[ae]at hc
   obtain⟨n,hn,hc⟩:=hc
   split at hc
   ·rename_i jm
    cases hc
    obtain⟨v,hv,hp⟩:=aeU (P:=P) h hu hn jm (gX h he hX) (gX h he hY) hk
    exact⟨v,w,by simp only[execOp,ho];exact iX hv,hp⟩
   ·cases hc
  ·rename_i m e hu
   simp only[ae,aG,ar]at hc
   obtain⟨n,hn,rfl⟩:=hc
   obtain⟨v,hv,hp⟩:=aeV (P:=P) h hu hn (gX h he hX) (gX h he hY) hk
   exact⟨v,w,by simp only[execOp,ho];exact iX hv,hp⟩
  ·cases hc
 | index t x i=>
  simp only[ho,ax,ae]at hc
  obtain⟨X,hX,Y,hY,hc⟩:=hc
  split at hc
  ·rename_i m e hu
   simp only[ae,aG,ar]at hc
   obtain⟨n,hn,b,hb,rfl⟩:=hc
   obtain⟨v,hv,hp⟩:=aeT (P:=P) h hu hn hb (gX h he hX) (gX h he hY) hk
   exact⟨v,w,by simp only[execOp,ho];exact iX hv,hp⟩
  ·rename_i hu
   cases hc
   obtain⟨v,hv,hp⟩:=aeW (P:=P) h hu (gX h he hX) (gX h he hY) hk
   exact⟨v,w,by simp only[execOp,ho];exact iX hv,hp⟩
  ·cases hc
 | extract x i=>
  simp only[ho,ax,ae,aG,ar]at hc
  obtain⟨X,hX,rfl⟩:=hc
  obtain⟨v,hv,hp⟩:=aeQ (P:=P) h (gX h he hX) hk
  exact⟨v,w,by simp only[execOp,ho];exact iX hv,hp⟩
 | call cl=>
  simp only[ho,ax,ae]at hc
  obtain⟨args,qK,hc⟩:=hc
  have ie:=w7 h he cl.args.toList qK
  split at hc
  ·split at hc
   ·cases hc;split at hk<;>exact(show False from hk).elim
   ·cases hc
  ·simp only[ae,aG,ar]at hc
   obtain⟨X,hX,rfl⟩:=hc
   exact(show False from hk).elim
  ·rename_i iT
   split at hc
   ·rename_i t u x y lT
    have qL:cl.argTypes = #[t,u]:=by rw[← bH (xs:=cl.argTypes),lT]
    obtain⟨vs,jH,ie⟩:=MF ie
    simp only[List.map_cons,List.map_nil]at ie
    cases ie with|cons r1 ie=>cases ie with|cons r2 ie=>cases ie with|nil=>
    simp only[ae]at hc
    obtain⟨td,hu,hc⟩:=hc
    split at hc
    ·simp only[ae]at hc
     obtain⟨i,hi,z,hz,ud,QI,hc⟩:=hc
     split at hc
     ·split at hc
      ·rename_i iG
       cases hc
       obtain⟨v,w',hv,hp⟩:=aeD (P:=P) (ty:=o.type) h gg hu ⟨_,QI⟩ hi hz iG.1 iG.2 r1 r2 hk
       exact⟨v,w',by rw[tU ho iT,jH,qL];exact iX hv,hp⟩
      ·cases hc
     ·cases hc
    ·cases hc
   ·cases hc
  ·rename_i iT
   split at hc
   ·rename_i t u x y lT
    have qL:cl.argTypes = #[t,u]:=by rw[← bH (xs:=cl.argTypes),lT]
    obtain⟨vs,jH,ie⟩:=MF ie
    simp only[List.map_cons,List.map_nil]at ie
    cases ie with|cons r1 ie=>cases ie with|cons r2 ie=>cases ie with|nil=>
    simp only[ae]at hc
    obtain⟨td,hu,hc⟩:=hc
    split at hc
    ·simp only[ae]at hc
     obtain⟨ud,QI,hc⟩:=hc
     split at hc
     ·simp only[ae]at hc
      obtain⟨n,hn,hc⟩:=hc
      split at hc
      ·rename_i jm
       cases hc
       obtain⟨v,w',hv,hp⟩:=aeO (P:=P) (u:=u) (ty:=o.type) h hu hn jm r1 r2 hk
       exact⟨v,w',by rw[tU ho iT,jH,qL];exact iX hv,hp⟩
      ·cases hc
     ·cases hc
    ·cases hc
   ·cases hc
  ·rename_i iT
   split at hc
   ·rename_i t x lT
    have qL:cl.argTypes = #[t]:=by rw[← bH (xs:=cl.argTypes),lT]
    obtain⟨vs,jH,ie⟩:=MF ie
    simp only[List.map_cons,List.map_nil]at ie
    cases ie with|cons r1 ie=>cases ie with|nil=>
    split at hc
    ·rename_i e hu
     cases hc
     obtain⟨v,hv,hp⟩:=Mu (P:=P) (ty:=o.type) (k:=.slice) h hu ⟨e,rfl⟩ r1 hk
     exact⟨v,w,by rw[tU ho iT,jH,qL];exact iX hv,hp⟩
    ·rename_i hu
     cases hc
     obtain⟨v,hv,hp⟩:=Mu (P:=P) (ty:=o.type) (k:=.string) h hu rfl r1 hk
     exact⟨v,w,by rw[tU ho iT,jH,qL];exact iX hv,hp⟩
    ·rename_i k e hu
     cases hc
     obtain⟨v,hv,hp⟩:=Mu (P:=P) (ty:=o.type) (k:=.map) h hu ⟨k,e,rfl⟩ r1 hk
     exact⟨v,w,by rw[tU ho iT,jH,qL];exact iX hv,hp⟩
    ·cases hc
   ·cases hc
  ·rename_i iT
   cases hc
   obtain⟨v,hv,hp⟩:=RX (P:=P) h he qK true cl.argTypes o.type hk
   exact⟨v,w,by rw[tU ho iT];exact iX (by simpa using hv),hp⟩
  ·rename_i iT
   cases hc
   obtain⟨v,hv,hp⟩:=RX (P:=P) h he qK false cl.argTypes o.type hk
   exact⟨v,w,by rw[tU ho iT];exact iX (by simpa using hv),hp⟩
  ·cases hc
 | _=>simp[ho]at hc
