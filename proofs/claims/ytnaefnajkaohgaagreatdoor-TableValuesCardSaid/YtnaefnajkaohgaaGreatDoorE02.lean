/- Part 2 of the proof of skewer.skewerlaw15.TableValues. -/
import Derived.Test.YtnaefnajkaohgaaGreatDoorE01
set_option linter.all false
namespace Go.AL
open Go
section
variable{P:Program}{G:GT}{c:Ctx}{H:U}{w:World}{K:iw}{env:fO}{a:Act}
theorem acu(h:fj G c H w){t e:TypeId}{sz n:Nat}(hu:P.underlying t=some (.array n e))(hs:jg P e=some sz){x i:D}{u v:Value}(h1:eV c w u x)(h2:eV c w v i)(hk:AZ sz n x i H K) :
  ∃ r,(Instr.indexAt t u v).run P w = .ok r w∧ia G c H w K r w:=by
 have gS:∀ (ad:Addr) (k:IntKind) (m:Int),0≤m∧m<n→(Instr.indexAt t (.pointer (some ad)) (.int k m)).run P w = .ok (.pointer (some (ad.add (m.toNat*sz)))) w:=fun ad k m hm=>by
  simp only[Instr.indexAt,Sem.run_bind,asIntOf,Sem.run_pure,Result.andThen_ok,run_underlying hu,pj hs,Sem.run_ite,Instr.sureAddr]
  rw[if_pos hm]
 unfold AZ at hk
 split at hk
 ·rename_i v0 g0 o k m
  obtain⟨hm,hk⟩:=hk
  cases h2
  cases h1 with
  | ptr _ _ _ L e7 hv=>
   refine⟨_,gS _ k m hm,.plain h hk ?_⟩
   rw[Addr.add_lit,bj]
   exact .ptr _ _ _ L e7 hv
 ·rename_i cs k m
  obtain⟨hm,hk⟩:=hk
  cases h2
  obtain⟨b,p,rfl,hF,hc⟩:=vo h1
  refine⟨_,gS _ k m hm,.plain h hk ?_⟩
  rw[Addr.add_lit]
  exact IB hF (hc.drop _)
 ·exact hk.elim
theorem acr(h:fj G c H w){t e:TypeId}{sz n:Nat}{b:Bool}(hu:P.underlying t=some (.array n e))(hs:jg P e=some sz)(ha:nf P e=some b){x i:D}{u v:Value}(h1:eV c w u x)(h2:eV c w v i)(hk:A1 sz n b x i H K) :
  ∃ r,(Instr.index t u v).run P w = .ok r w∧ia G c H w K r w:=by
 unfold A1 at hk
 split at hk
 ·rename_i cs k m
  obtain⟨hm,hk⟩:=hk
  cases h2
  cases h1 with
  | agg vs _ hl h1 h2=>
   obtain⟨r,hr,hp⟩:=Qa (off:=m.toNat*sz) h ha hs ⟨hl,h1,h2⟩ hk
   refine⟨r,?_,hp⟩
   simp only[Instr.index,Sem.run_bind,asIntOf,Sem.run_pure,Result.andThen_ok,run_underlying hu,Sem.run_ite]
   rw[if_pos hm]
   simp[pj hs,hr]
 ·exact hk.elim
theorem acv(h:fj G c H w){t:TypeId}(hu:P.underlying t=some .string){x i:D}{u v:Value}(h1:eV c w u x)(h2:eV c w v i)(hk:A2 x i H K) :
  ∃ r,(Instr.index t u v).run P w = .ok r w∧ia G c H w K r w:=by
 unfold A2 at hk
 split at hk
 ·rename_i s k m
  obtain⟨hm,hk⟩:=hk
  cases h1
  cases h2
  have ft:m.toNat<s.size:=by omega
  have hl:s.data.toList.getD m.toNat 0=s[m.toNat]:=by
   have h':m.toNat<s.data.size:=ft
   show(s.data.toList[m.toNat]?).getD 0=s.data[m.toNat]
   rw[bE,cm h']
   rfl
  rw[hl]at hk
  refine⟨_,?_,.val h hk⟩
  simp only[Instr.index,Sem.run_bind,asIntOf,Sem.run_pure,Result.andThen_ok,run_underlying hu]
  rw[if_pos hm.1]
  simp[ft]
 ·exact hk.elim
theorem aco(h:fj G c H w){x:D}{i:Nat}{u:Value}(h1:eV c w u x)(hk:z1 x i H K):∃ r,(Instr.extract u i).run P w = .ok r w∧ia G c H w K r w:=by
 unfold z1 at hk
 split at hk
 ·split at hk
  ·rename_i ds d hd
   cases h1 with
   | tup vs _ hl h1=>
    have hi:i<vs.length:=by rw[hl];exact(ae.1 hd).1
    refine⟨vs[i],?_,.plain h hk (h1 i _ d (by simp[hi]) hd)⟩
    simp[Instr.extract,hi]
  ·exact hk.elim
 ·exact hk.elim
theorem acz(h:fj G c H w)(he:jt c w env a){f:Fn}{first cap:Array Operand}{df dc:List X}(h1:sD G first.toList=some df)(h2:sD G cap.toList=some dc)
  (hk:K (.fn f (df.map (ev env)) (dc.map (ev env))) H):ia G c H w K (.func f (first.map a.eval) (cap.map a.eval)) w:=by
 have r1:=vj h he first.toList h1
 have r2:=vj h he cap.toList h2
 refine .plain h hk ?_
 have:=eV.fn (c:=c) (w:=w) f (first.toList.map a.eval) (cap.toList.map a.eval) (df.map (ev env)) (dc.map (ev env)) r1.length r2.length r1.get r2.get
 have e:∀ l:Array Operand,(l.toList.map a.eval).toArray=l.map a.eval:=fun l=>by cases l;simp
 rwa [e,e]at this
theorem acA(h:fj G c H w){al:Al}(fZ:kZ H al)(t:TypeId)(kk:KK)(hk:K (.omap al.1) (al.2 (.map kk []))):∃ r w',(Instr.makeMap t none).run P w = .ok r w'∧ia G c H w K r w':=by
 have pF:=iM.alloc w (.map #[] 0)
 have hL:(⟨w.heap.size,0,0,false⟩:Loc).iv=false→w.heap.size≤(⟨w.heap.size,0,0,false⟩:Loc).b∧(⟨w.heap.size,0,0,false⟩:Loc).b<(w.alloc (.map #[] 0)).heap.size:=fun _=>⟨Nat.le_refl _,by simp⟩
 have ht:=(fZ (.map kk [])).qu
 have hs:=Ho h ht pF ⟨w.heap.size,0,0,false⟩ hL
 refine⟨.map (some w.heap.size),w.alloc (.map #[] 0),by simp[Instr.makeMap],_,_,_,hk,K5 h ht pF _ hL rfl ?_,?_,hs⟩
 ·simp only[fX]
  exact⟨trivial,by simp,#[],0,heap_alloc_new _ _,⟨rfl,by simp,by simp⟩⟩
 ·exact .omap (c:=c.set al.1 0 ⟨w.heap.size,0,0,false⟩) al.1 ⟨w.heap.size,0,0,false⟩ (Ctx.pT _ _ _ _) rfl
theorem acB(h:fj G c H w){al:Al}(fZ:kZ H al){t e:TypeId}{i:TypeInfo}{z:List D}(hu:P.underlying t=some (.slice e))(hi:P.info? e=some i)(hz:nZ P e=some z)(yg:z.length=i.size)(jr:0<i.size)
  {l m:D} {u v:Value} (h1:eV c w u l) (h2:eV c w v m) (hk:Bi e i.size i.bytes z l m al K):∃ r w',(Instr.makeSlice t u v).run P w = .ok r w'∧ia G c H w K r w':=by
 unfold Bi at hk
 split at hk
 ·rename_i k n k' q
  obtain⟨⟨Jk,hnq,hq,hb⟩,hk⟩:=hk
  cases h1
  cases h2
  obtain⟨zv,s9,_,pI⟩:=uT hz w
  have rT:zv.cells.size=i.size:=by have:=(pI c w).len;simp at this;omega
  have wn:IntKind.i64.wrap n=n:=wrap_i64 (by unfold lR;omega)
  have wq:IntKind.i64.wrap q=q:=wrap_i64 (by unfold lR;omega)
  have nK:Cells c w ((Array.range (q.toNat*i.size)).map (fun j=>zv.cells[j % zv.cells.size]!)).toList (List.replicate q.toNat z).flatten:=by
   rw[← rT,GN zv.cells q.toNat (by omega)]
   exact Fc _ _ pI _
  obtain⟨L,e1,e2,e3,e4,e5,e6⟩:=Bk h w (iM.refl w) e _ _ ((Array.range (q.toNat*i.size)).map (fun j=>zv.cells[j % zv.cells.size]!)).size ((Array.range (q.toNat*i.size)).map (fun j=>zv.cells[j % zv.cells.size]!)) (fZ _).qu nK (by rw[← cU,dF]) (Nat.le_refl _)
  refine⟨.slice (some ⟨w.heap.size,0,none⟩) n.toNat q.toNat,w.alloc (.cells ((Array.range (q.toNat*i.size)).map (fun j=>zv.cells[j % zv.cells.size]!)) e),?_,?_⟩
  ·have c1:¬ ((i.bytes:Int)*q>2 ^ 48):=by omega
   have c2:¬ q<0:=by omega
   have c3:¬ n<0:=by omega
   have c4:¬ n>q:=by omega
   simp only[Instr.makeSlice,Sem.run_bind,run_underlying hu,Result.andThen_ok,asInt,asIntOf,Sem.run_pure,run_typeInfo hi,wn,wq,Sem.run_ite]
   rw[if_neg (by simp[c1,c2,c3,c4];omega)]
   by_cases h0:q.toNat*i.size=0
   ·have VZ:q.toNat=0:=by rcases Nat.mul_eq_zero.1 h0 with h|h<;>omega
    have er:Array.range 0=(#[]:Array Nat):=rfl
    simp[sizeOf,run_typeInfo hi,VZ,newRow,er]
   ·simp[sizeOf,run_typeInfo hi,h0,s9,newRow]
  ·have hp:=GK (c:=c) (w:=w.alloc (.cells ((Array.range (q.toNat*i.size)).map (fun j=>zv.cells[j % zv.cells.size]!)) e)) e1 e3 al.1 0 i.size n.toNat q.toNat (by rw[e4];simp) (by omega) (by unfold maxLen;omega)
   rw[e2]at hp
   exact⟨_,_,_,hk,e5,hp,e6⟩
 ·exact hk.elim
end
end Go.AL
namespace Go.AL
open Go
section
variable{P:Program}{G:GT}{c:Ctx}{H:U}{w:World}{K:iw}{env:fO}{a:Act}
theorem Fa{α:Type}(sz:Nat)(jr:0<sz):∀ (ls:List (List α)),(∀ l∈ls,l.length=sz)→∀ j:Nat,ls.flatten[j]? = (ls[j / sz]?).bind (·[j % sz]?)
 | [],_,j=>by simp
 | l::ls,h,j=>by
  have hl:l.length=sz:=h l (by simp)
  rw[aN]
  by_cases hj:j<sz
  ·rw[ag (by omega),Nat.div_eq_of_lt hj,eA hj]
   simp
  ·rw[ak (by omega),hl,Fa sz jr ls (fun l hl=>h l (by simp[hl])),Nat.div_eq_sub_div (a:=j) (b:=sz) jr (by omega),Nat.mod_eq_sub_mod (a:=j) (b:=sz) (by omega)]
   simp
theorem Fb{α:Type}(sz:Nat):∀ (ls:List (List α)),(∀ l∈ls,l.length=sz)→ls.flatten.length=ls.length*sz
 | [],_=>by simp
 | l::ls,h=>by
  rw[aN,ax,Fb sz ls (fun l hl=>h l (by simp[hl])),h l (by simp),aG,bp]
  omega
theorem K1(h:fj G c H w){sz:Nat}(jr:0<sz){d:D}{u:Value}(hr:eV c w u d){ys:List D}{n:Nat}(hy:jM sz H d=some (ys,n)) :
  ∃ yb yc vs,u = .slice yb n yc∧Cells c w vs ys∧ys.length=n*sz∧n≤yc∧(yb=none→n=0)∧(∀ ad,yb=some ad→∀ (j:Nat) (v:Value),vs[j]? = some v→w.cell? (ad.add j)=some v):=by
 unfold jM at hy
 split at hy
 ·rename_i fV es
  split at hy
  ·rename_i e
   subst e
   cases hy
   cases hr with
   | sl ad len cap _ _ g hlen iQ ji gy mY hc hr=>
    have AA:=Fb fV es gy
    have gM:∀ (j:Nat) (d:D),es.flatten[j]? = some d→∃ e,es[j / fV]? = some e∧e[j % fV]? = some d:=fun j d hd=>by
     rw[Fa fV jr es gy]at hd
     cases he:es[j / fV]? with
     | none=>simp[he]at hd
     | some e=>exact⟨e,rfl,by simpa[he]using hd⟩
    refine⟨ad,cap,(List.range es.flatten.length).map fun j=>g (j / fV) (j % fV),by rw[hlen],⟨by simp,fun v hv=>?_,fun i v d hv hd=>?_⟩,AA,by omega,fun e=>by have:=mY e;omega,fun b hb j v hv=>?_⟩
    ·simp only[ao,aX]at hv
     obtain⟨j,hj,rfl⟩:=hv
     obtain⟨e,Ar,oH⟩:=gM j _ (by rw[List.getElem?_eq_getElem hj])
     obtain⟨_,_,_,_,_,h1⟩:=hc _ e _ _ Ar oH
     exact h1
    ·obtain⟨e,Ar,oH⟩:=gM i d hd
     simp only[au,bZ (ae.1 hd).1,a8,av]at hv
     subst hv
     exact hr _ e _ d Ar oH
    ·have hj:j<es.flatten.length:=by have:=(ae.1 hv).1;simpa using this
     simp only[au,bZ hj,a8,av]at hv
     subst hv
     obtain⟨e,Ar,oH⟩:=gM j _ (by rw[List.getElem?_eq_getElem hj])
     obtain⟨b',o,uj,_,h2,_⟩:=hc _ e _ _ Ar oH
     rw[hb]at uj
     cases uj
     rw[Addr.add_lit]
     have h3:=h2
     rw[Nat.div_add_mod' j fV]at h3
     exact h3
  ·cases hy
 ·cases hy
  cases hr with
  | emp=>exact⟨none,0,[],rfl,Cells.nil,by simp,Nat.le_refl _,fun _=>rfl,fun _ _ j v hv=>by simp at hv⟩
 ·rename_i v0 g0 fV off len
  split at hy
  ·rename_i t cs gf
   split at hy
   ·rename_i il
    obtain⟨rfl,kS⟩:=il
    cases hy
    have hv:=qt gf
    dsimp only at hv
    cases hr with
    | eT _ _ _ _ _ cap L e7 gw iQ ji kc=>
     obtain⟨arr,h1,h2,h3,h4⟩:=uQ h hv e7 gw
     refine⟨_,cap,_,rfl,((h4.drop (off*fV)).take (n*fV)),?_,iQ,(fun e=>nomatch e),fun ad hb j v hv=>?_⟩
     ·simp only[aS,br]
      rw[bp]at kS
      omega
     ·cases hb
      rw[Addr.add_lit]
      rw[aA]at hv
      split at hv
      ·rw[aB,aA]at hv
       split at hv
       ·rw[aB]at hv
        simp[World.cell?,h1]
        rw[bj]
        simpa using hv
       ·cases hv
      ·cases hv
    | lu _ _ _ _ L e7 ad=>
     refine⟨ad,0,[],rfl,?_,by simp,Nat.le_refl _,fun _=>rfl,fun _ _ j v hv=>by simp at hv⟩
     simp only[cr,dv]
     exact Cells.nil
   ·cases hy
  ·cases hy
 ·cases hy
theorem Mr:∀ {vs:List Value} {ys:List D} {ns:List Int},vs.length=ys.length→(∀ (i:Nat) (v:Value) (d:D),vs[i]? = some v→ys[i]? = some d→eV c w v d)→bytesOf ys=some ns→vs=ns.map (Value.int .u8)
 | [],[],ns,_,_,h=>by cases h;rfl
 | v::vs,y::ys,ns,hl,hr,h=>by
  unfold bytesOf at h
  split at h
  ·rename_i heq;cases heq
  ·rename_i n r heq
   cases heq
   split at h
   ·rename_i l lj
    cases h
    have h0:=hr 0 v _ rfl rfl
    cases h0
    have e:=Mr (vs:=vs) (by simpa using hl) (fun i v d hv hd=>hr (i+1) v d (by simpa using hv) (by simpa using hd)) lj
    rw[e]
    rfl
   ·cases h
  ·cases h
theorem acd(h:fj G c H w){s d e:TypeId}(hs:P.underlying s=some (.slice e))(he:P.underlying e=some (.int .u8))(hd:P.underlying d=some .string){x:D}{u:Value}(h1:eV c w u x)(hk:zy x H K) :
  ∃ r,(convert s d u).run P w = .ok r w∧ia G c H w K r w:=by
 unfold zy at hk
 split at hk
 ·rename_i ys n oj
  obtain⟨yb,yc,vs,nP,jb,jj,OX,AW,AV⟩:=K1 h (by omega) h1 oj
  subst nP
  split at hk
  ·rename_i ns FN
   have hv:=Mr jb.len jb.rep FN
   refine⟨_,?_,.val h hk⟩
   rw[run_convert_bytes_string w s d e yb n yc hs he hd]
   cases yb with
   | none=>
    have hn:=AW rfl
    subst hn
    have:ns = []:=by
     have:vs = []:=bk (by rw[jb.len,jj])
     rw[this]at hv
     cases ns with
     | nil=>rfl
     | cons=>cases hv
    subst this
    simp[Conv.bytesToString]
   | some ad=>
    refine run_bytesToString w ad n yc ns ?_
    have hl:vs.length=n:=by rw[jb.len,jj];simp
    have:=run_loadCells_list (P:=P) w ad vs (AV ad rfl)
    rw[hl]at this
    rw[this,hv]
  ·exact hk.elim
 ·exact hk.elim
theorem R8(h:fj G c H w)(he:jt c w env a){x:Option Operand}{X:Option X}(hx:sC G x=some X){d:Int}{n:Int}(hb:ij env X d=some n) :
  (x=none∧n=d)∨∃ k o,x=some o∧a.eval o = .int k n:=by
 cases x with
 | none=>cases hx;simp[ij]at hb;exact .inl ⟨rfl,hb.symm⟩
 | some o=>
  simp only[sC,ai]at hx
  obtain⟨X0,hX,rfl⟩:=hx
  have:=gJ h he hX
  simp only[ij]at hb
  split at hb
  ·rename_i k m nL
   cases hb
   rw[nL]at this
   generalize hv:a.eval o=v at this
   cases this
   exact .inr ⟨k,o,rfl,hv⟩
  ·cases hb
theorem QV(isSlice:Bool)(len cap:Nat)(lo hi:Option Value)(l h:Int)(mG:(lo=none∧l=0)∨∃ k,lo=some (.int k l))(Vk:(hi=none∧h=len)∨∃ k,hi=some (.int k h))
  (h0:0≤l) (h1:l≤h) (h2:h≤cap):(Instr.sliceBounds isSlice len cap lo hi none).run P w = .ok (l.toNat,h.toNat,cap) w:=by
 have eh:(h.toNat:Int)=h:=cD (by omega)
 rcases mG with⟨rfl,rfl⟩|⟨k,rfl⟩<;>rcases Vk with⟨rfl,rfl⟩|⟨k',rfl⟩
 ·simp[Instr.sliceBounds]
 ·simp[Instr.sliceBounds,run_sliceBound w k' h cap _ (by omega) h2]
 ·simp[Instr.sliceBounds,run_sliceBound w k l len _ h0 h1]
 ·simp[Instr.sliceBounds,run_sliceBound w k' h cap _ (by omega) h2,run_sliceBound w k l h.toNat _ h0 (by omega)]
theorem Ew(h:fj G c H w)(he:jt c w env a){x:Option Operand}{X:Option X}(hx:sC G x=some X){d:Int}{n:Int}(hb:ij env X d=some n) :
  (x.map a.eval=none∧n=d)∨∃ k,x.map a.eval=some (.int k n):=by
 rcases R8 h he hx hb with⟨rfl,rfl⟩|⟨k,o,rfl,hv⟩
 ·exact .inl ⟨rfl,rfl⟩
 ·exact .inr ⟨k,by simp[hv]⟩
theorem acG(h:fj G c H w)(he:jt c w env a){t e:TypeId}{sz:Nat}(hu:P.underlying t=some (.slice e))(hs:jg P e=some sz){lo hi:Option Operand}{L M:Option X}(hl:sC G lo=some L)(hm:sC G hi=some M)
  {x:D} {u:Value} (h1:eV c w u x) (hk:BS env sz x L M H K):∃ r,(Instr.sliceAt t u (lo.map a.eval) (hi.map a.eval) none).run P w = .ok r w∧ia G c H w K r w:=by
 have gS:∀ (b:Option Addr) (len cap:Nat) (l m:Int),ij env L 0=some l→ij env M len=some m→0≤l→l≤m→m≤cap →
   (Instr.sliceAt t (.slice b len cap) (lo.map a.eval) (hi.map a.eval) none).run P w = .ok (.slice (if cap=l.toNat then b else b.map (·.add (l.toNat*sz))) (m.toNat-l.toNat) (cap-l.toNat)) w:=by
  intro b len cap l m od rJ h0 qK VF
  have hb:=QV (P:=P) (w:=w) true len cap (lo.map a.eval) (hi.map a.eval) l m (Ew h he hl od) (Ew h he hm rJ) h0 qK VF
  simp only[Instr.sliceAt,Sem.run_bind,run_underlying hu,Result.andThen_ok,Instr.slice,hb,pj hs,Sem.run_pure]
 unfold BS at hk
 split at hk
 ·rename_i fV es
  split at hk
  ·rename_i l m od rJ
   obtain⟨rfl,⟨h0,qK,Jj⟩,hk⟩:=hk
   cases h1 with
   | sl ad len cap _ _ g hlen iQ ji gy mY hc hr=>
    refine⟨_,gS ad len cap l m od (by rw[← hlen];exact rJ) h0 qK (by omega),.plain h hk ?_⟩
    have gM:∀ (i:Nat) (e:List D),((es.drop l.toNat).take (m.toNat-l.toNat))[i]? = some e→es[l.toNat+i]? = some e∧i<m.toNat-l.toNat:=fun i e hi=>by
     rw[aA]at hi
     split at hi
     ·rw[aB]at hi;exact⟨hi,by assumption⟩
     ·cases hi
    refine .sl _ _ _ fV _ (fun i j=>g (l.toNat+i) j) (by simp;omega) (by omega) (by omega) (fun e kb=>gy e (bX (aM kb))) ?_ ?_ ?_
    ·intro hn
     split at hn
     ·omega
     ·cases ad with
      | none=>have:=mY rfl;omega
      | some ad=>simp at hn
    ·intro i e j d hi hd
     obtain⟨h3,h4⟩:=gM i e hi
     obtain⟨b,o,uj,hF,vO,h1⟩:=hc _ e j d h3 hd
     refine⟨b,o+l.toNat*fV,?_,hF,?_,h1⟩
     ·rw[if_neg (by omega),uj]
      simp[Addr.add_lit]
     ·rw[← vO,bp]
      congr 2
      omega
    ·intro i e j d hi hd
     exact hr _ e j d (gM i e hi).1 hd
  ·exact hk.elim
 ·rename_i v g0 fV off len
  split at hk
  ·rename_i l m od rJ
   obtain⟨rfl,⟨h0,qK,Jj⟩,hk⟩:=hk
   cases h1 with
   | eT _ _ _ _ _ cap Lc e7 hv iQ ji kc=>
    refine⟨_,gS _ len cap l m od rJ h0 qK (by omega),.plain h hk ?_⟩
    by_cases hz:cap=l.toNat
    ·rw[if_pos hz,show m.toNat-l.toNat=0 by omega,show cap-l.toNat=0 by omega]
     exact .lu v g0 fV (off+l.toNat) Lc e7 _
    ·rw[if_neg hz]
     have:=eV.eT (c:=c) (w:=w) v g0 fV (off+l.toNat) (m.toNat-l.toNat) (cap-l.toNat) Lc e7 hv (by omega) (by omega) (by rw[show off+l.toNat+(cap-l.toNat)=off+cap by omega];exact kc)
     simp only[a8,Addr.add_lit]
     rw[bj,← bp]
     exact this
   | lu _ _ _ _ Lc e7 ad=>
    have:l=0:=by omega
    subst this
    have:m=0:=by omega
    subst this
    refine⟨_,gS ad 0 0 0 0 od rJ h0 qK (by omega),.plain h hk ?_⟩
    simp only[Int.toNat_zero,if_true,Nat.sub_zero,bS]
    exact .lu v g0 fV off Lc e7 ad
  ·exact hk.elim
 ·split at hk
  ·rename_i l m od rJ
   obtain⟨⟨rfl,rfl⟩,hk⟩:=hk
   cases h1 with
   | emp=>
    refine⟨_,gS none 0 0 0 0 od rJ (by omega) (by omega) (by omega),.plain h hk ?_⟩
    simp only[Int.toNat_zero,if_true,Nat.sub_zero]
    exact .emp
  ·exact hk.elim
 ·exact hk.elim
theorem acH(h:fj G c H w)(he:jt c w env a){t:TypeId}(hu:P.underlying t=some .string){lo hi:Option Operand}{L M:Option X}(hl:sC G lo=some L)(hm:sC G hi=some M)
  {s:ByteArray} (hk:yL env (.val (.string s)) L M H K):∃ r,(Instr.sliceAt t (.string s) (lo.map a.eval) (hi.map a.eval) none).run P w = .ok r w∧ia G c H w K r w:=by
 simp only[yL]at hk
 split at hk
 ·rename_i l m od rJ
  obtain⟨⟨h0,qK,Jj⟩,hk⟩:=hk
  have hb:=QV (P:=P) (w:=w) false s.size s.size (lo.map a.eval) (hi.map a.eval) l m (Ew h he hl od) (Ew h he hm rJ) h0 qK Jj
  exact⟨.string (s.extract l.toNat m.toNat),by simp[Instr.sliceAt,run_underlying hu,Instr.slice,hb],.val h hk⟩
 ·exact hk.elim
theorem uJ{v:Nat}{x:KK×List (Value×D)}(h:jU H v=some x):H[v]? = some (.map x.1 x.2):=by
 unfold jU at h
 split at h
 ·cases h;assumption
 ·cases h
theorem Ku(h:fj G c H w){t ty:TypeId}{k:vc}{d:TypeDesc}(hd:P.underlying t=some d)(vY:match k with | .slice=>∃ e,d = .slice e | .string=>d = .string | .map=>∃ k e,d = .map k e)
  {x:D} {u:Value} (h1:eV c w u x) (hk:A' k x H K):∃ r,(Builtin.len_ #[t] ty #[u]).run P w = .ok r w∧ia G c H w K r w:=by
 unfold A' at hk
 split at hk
 ·obtain⟨e,rfl⟩:=vY
  cases h1 with
  | sl ad len cap _ _ g hlen iQ ji gy mY hc hr=>
   refine⟨goInt len,by simp[Builtin.len_,run_underlying hd],.plain h hk ?_⟩
   rw[hlen];exact .val _
 ·obtain⟨e,rfl⟩:=vY
  cases h1 with
  | emp=>exact⟨goInt 0,by simp[Builtin.len_,run_underlying hd],.plain h hk (.val _)⟩
 ·rename_i v g0 sz off len
  obtain⟨e,rfl⟩:=vY
  cases h1 with
  | eT _ _ _ _ _ cap L e7 hv iQ ji kc=>exact⟨goInt len,by simp[Builtin.len_,run_underlying hd],.plain h hk (.val _)⟩
  | lu=>exact⟨goInt 0,by simp[Builtin.len_,run_underlying hd],.plain h hk (.val _)⟩
 ·have vY:d = .string:=vY
  subst vY
  cases h1
  exact⟨_,by simp[Builtin.len_,run_underlying hd]<;>rfl,.plain h hk (.val _)⟩
 ·rename_i v
  obtain⟨kk,e,rfl⟩:=vY
  split at hk
  ·rename_i pe es qb
   cases h1 with
   | omap _ L e7 hv=>
    have gi:=h.ob v _ (uJ qb)
    simp only[Ob.gen]at gi
    rw[e7]at gi
    simp only[fX]at gi
    obtain⟨_,_,arr,clock,hm,gy,_⟩:=gi
    refine⟨goInt arr.size,by simp[Builtin.len_,run_underlying hd,getObj,Sem.run,hm],.plain h hk ?_⟩
    rw[← gy];exact .val _
  ·exact hk.elim
 ·exact hk.elim
theorem P8(h:fj G c H w)(he:jt c w env a){xs:List X}{ops:Array Operand}(hx:sD G ops.toList=some xs)(isMax:Bool)(ts:Array TypeId)(ty:TypeId)(hk:Bh env isMax xs H K) :
  ∃ r,(if isMax then Builtin.max_ ts ty (ops.map a.eval)else Builtin.min_ ts ty (ops.map a.eval)).run P w = .ok r w∧ia G c H w K r w:=by
 have hr:=vj h he ops.toList hx
 have key:∀ (xs:List X) (vs:List Value) (l:List Int),om env xs=some l→ig c w vs (xs.map (ev env))→vs=l.map (Value.int .i64 ·):=by
  intro xs
  induction xs with
  | nil=>intro vs l hl hr;simp[om]at hl;subst hl;cases hr;rfl
  | cons x xs ih=>
   intro vs l hl hr
   simp only[om]at hl
   split at hl
   ·rename_i n l' nL lj
    cases hl
    simp only[List.map_cons]at hr
    cases hr with
    | cons h1 h2=>
     rw[nL]at h1
     cases h1
     rw[ih _ _ lj h2]
     rfl
   ·cases hl
 have e:∀ l:Array Operand,(l.toList.map a.eval).toArray=l.map a.eval:=fun l=>by cases l;simp
 unfold Bh at hk
 split at hk
 ·rename_i p q hi
  have hv:=key _ _ _ hi hr
  have kd:ops.map a.eval = #[.int .i64 p,.int .i64 q]:=by rw[← e,hv];rfl
  cases isMax
  ·refine⟨.int .i64 (min p q),?_,.val h (by simpa using hk)⟩
   simp only[bH,if_false,kd]
   have:(if q<p then q else p)=min p q:=by omega
   simp[Builtin.min_,Builtin.min2,this]
  ·refine⟨.int .i64 (max p q),?_,.val h (by simpa using hk)⟩
   simp only[if_true,kd]
   have:(if q>p then q else p)=max p q:=by omega
   simp[Builtin.max_,Builtin.max2]
   omega
 ·rename_i p q s hi
  have hv:=key _ _ _ hi hr
  have kd:ops.map a.eval = #[.int .i64 p,.int .i64 q,.int .i64 s]:=by rw[← e,hv];rfl
  cases isMax
  ·refine⟨.int .i64 (min (min p q) s),?_,.val h (by simpa using hk)⟩
   simp only[bH,if_false,kd]
   simp[Builtin.min_,Builtin.min2]
   omega
  ·refine⟨.int .i64 (max (max p q) s),?_,.val h (by simpa using hk)⟩
   simp only[if_true,kd]
   simp[Builtin.max_,Builtin.max2]
   omega
 ·exact hk.elim
end
end Go.AL
namespace Go.AL
open Go
section
variable{P:Program}{G:GT}{c:Ctx}{H:U}{w:World}{K:iw}{env:fO}{a:Act}
theorem PT{G:GT}{c:Ctx}{H:U}{w w':World}(h:fj G c H w){v g:Nat}{t:TypeId}{cs:List D}(hv:H[v]? = some (.row t g cs)){L:Loc}(e7:c.ι v g=some L)(L':Loc)
  (hg:(w'.os=w.os∧w.drawn≤w'.drawn)∧w'.tape=w.tape∧w'.output=w.output∧w.heap.size≤w'.heap.size) (FE:∀ b,b<w.heap.size→¬ (L.iv=false∧b=L.b)→w'.heap[b]? = w.heap[b]?)
  (wh:L'.iv=false→(w.heap.size≤L'.b∨(L.iv=false∧L'.b=L.b))∧L'.b<w'.heap.size) (lz:List D)
  (gi:(∀ u d,eV c w u d→eV (c.set v (g+1) L') w' u d)→fX (c.set v (g+1) L') w' (some L') (.row t (g+1) lz)) :
  fj G (c.set v (g+1) L') (H.set v (.row t (g+1) lz)) w'∧Step H.length c H w (c.set v (g+1) L') (H.set v (.row t (g+1) lz)) w':=by
 have gT:v<H.length:=(ae.1 hv).1
 have pa:jN c H v L:=⟨_,hv,rfl,e7⟩
 have ht:tI H v (.row t (g+1) lz) (H.set v (.row t (g+1) lz)):=⟨oQ gT,.inr (.inr ⟨_,hv,rfl,Nat.lt_succ_self _⟩),by simp⟩
 have VO:∀ b,c.F b→¬ (L.iv=false∧b=L.b):=fun b hF e=>h.nF b ⟨v,L,pa,e.1,e.2.symm⟩ hF
 have kG:∀ u l,jN (c.set v (g+1) L') (H.set v (.row t (g+1) lz)) u l→(u=v∧l=L')∨(u≠v∧jN c H u l):=fun u l hl=>yS ht hl
 have o6:∀ b,kj (c.set v (g+1) L') (H.set v (.row t (g+1) lz)) b→(L'.iv=false∧b=L'.b)∨(kj c H b∧¬ (L.iv=false∧b=L.b)):=by
  rintro b ⟨u,l,hl,kV,rfl⟩
  rcases kG u l hl with⟨_,rfl⟩|⟨gd,h1⟩
  ·exact .inl ⟨kV,rfl⟩
  ·exact .inr ⟨⟨u,l,h1,kV,rfl⟩,fun e=>gd (h.inj u v l L h1 pa kV e.1 e.2)⟩
 have hs:Step H.length c H w (c.set v (g+1) L') (H.set v (.row t (g+1) lz)) w':={
  os:=hg.1
  tape:=hg.2.1
  output:=hg.2.2.1
  size:=hg.2.2.2
  RT:=rfl
  Fm:=fun _ h=>h
  Fn:=fun _ h=>.inl h
  kept:=fun b hb hn=>FE b hb fun e=>hn ⟨v,L,pa,e.1,e.2.symm⟩
  old:=fun u k l _ hu=>Rj h ht u k l hu
  own:=fun b hb=>by
   rcases o6 b hb with⟨kV,rfl⟩|⟨hb,_⟩
   ·rcases(wh kV).1 with h1|⟨h1,h2⟩
    ·exact .inl h1
    ·exact .inr ⟨v,L,pa,h1,h2.symm⟩
   ·exact .inr hb }
 have hr:∀ u d,eV c w u d→eV (c.set v (g+1) L') w' u d:=fun u d hd=>hd.nX h.toHeapOK hs
 refine⟨{
  inj:=fun u u' l l' h1 h2 h5 h6 he=>by
   rcases kG u l h1 with⟨rfl,rfl⟩|⟨n1,b1⟩<;>rcases kG u' l' h2 with⟨rfl,rfl⟩|⟨n2,b2⟩
   ·rfl
   ·exfalso
    have ft:=h.lt l'.b ⟨u',l',b2,h6,rfl⟩
    rcases(wh h5).1 with h7|⟨h7,h8⟩
    ·omega
    ·exact n2 (h.inj u' u l' L b2 pa h6 h7 (by omega))
   ·exfalso
    have ft:=h.lt l.b ⟨u,l,b1,h5,rfl⟩
    rcases(wh h6).1 with h7|⟨h7,h8⟩
    ·omega
    ·exact n1 (h.inj u u' l L b1 pa h5 h7 (by omega))
   ·exact h.inj u u' l l' b1 b2 h5 h6 he
  lt:=fun b hb=>by
   rcases o6 b hb with⟨kV,rfl⟩|⟨hb,_⟩
   ·exact(wh kV).2
   ·exact aL (h.lt b hb) hg.2.2.2
  nF:=fun b hb hF=>by
   rcases o6 b hb with⟨kV,rfl⟩|⟨hb,_⟩
   ·rcases(wh kV).1 with h7|⟨h7,h8⟩
    ·have:=h.iZ _ hF;omega
    ·exact VO _ hF ⟨h7,h8⟩
   ·exact h.nF b hb hF
  iZ:=fun b hb=>aL (h.iZ b hb) hg.2.2.2
  out:=fun u k hu=>by
   simp only[bP]at hu
   rw[Ctx.q5 _ _ (by rintro⟨rfl,_⟩;omega)];exact h.out u k hu
  km:=fun u o k ho hk=>by
   rw[oQ gT]at ho
   split at ho
   ·rename_i e
    cases ho;subst e
    rcases hk with hk|⟨_,hk⟩
    ·cases hk
    ·simp only[Ob.gen]at hk
     rw[Ctx.q5 _ _ (by rintro⟨_,rfl⟩;omega)];exact h.km u _ k hv (.inr ⟨rfl,by simp only[Ob.gen];omega⟩)
   ·rename_i e
    rw[Ctx.q5 _ _ (fun h=>e h.1)]
    exact h.km u o k ho hk
  ob:=fun u o ho=>by
   rw[oQ gT]at ho
   split at ho
   ·rename_i e
    cases ho;subst e
    simp only[Ob.gen]
    rw[Ctx.pT]
    exact gi hr
   ·rename_i gd
    rw[Ctx.q5 _ _ (fun h=>gd h.1)]
    exact fX.mZ (c:=c) (c':=c.set v (g+1) L') rfl hr (fun l hl kd hd=>FE _ (h.lt _ ⟨u,l,⟨o,ho,hd,hl⟩,kd,rfl⟩) fun e=>gd (h.inj u v l L ⟨o,ho,hd,hl⟩ pa kd e.1 e.2)) (h.ob u o ho)
  gl:=fun g' cs vQ=>by
   obtain⟨fQ,qO⟩:=h.gl g' cs vQ
   exact⟨fQ,hr _ _ qO⟩
  rt:=h.rt },hs⟩
theorem Kl{G:GT}{c:Ctx}{H:U}{w w':World}(h:fj G c H w){v g:Nat}{t:TypeId}{cs:List D}(hv:H[v]? = some (.row t g cs)){L:Loc}(e7:c.ι v g=some L)(L':Loc)(gw:L'.iv=false)
  (hg:(w'.os=w.os∧w.drawn≤w'.drawn)∧w'.tape=w.tape∧w'.output=w.output∧w.heap.size≤w'.heap.size) (FE:∀ b,b<w.heap.size→¬ (L.iv=false∧b=L.b)→w'.heap[b]? = w.heap[b]?)
  (wh:(w.heap.size≤L'.b∨(L.iv=false∧L'.b=L.b))∧L'.b<w'.heap.size)
  (arr:Array Value) (lD:w'.heap[L'.b]? = some (.cells arr t (0,0))) (kc:L'.top=arr.size) (lz:List D) (hlen:L'.base+lz.length≤L'.top)
  (hc:∀ (i:Nat) (d:D),lz[i]? = some d→∃ u,arr[L'.base+i]? = some u∧u.oneCell'=true∧eV c w u d) :
  fj G (c.set v (g+1) L') (H.set v (.row t (g+1) lz)) w'∧Step H.length c H w (c.set v (g+1) L') (H.set v (.row t (g+1) lz)) w':=by
 refine PT h hv e7 L' hg FE (fun _=>wh) lz fun hr=>?_
 simp only[fX,gw]
 refine⟨arr,lD,kc,hlen,fun i d hd=>?_⟩
 obtain⟨x,nQ,kf,s8⟩:=hc i d hd
 exact⟨x,nQ,kf,hr _ _ s8⟩
theorem Ta{G:GT}{c:Ctx}{H:U}{w:World}(h:fj G c H w){v g:Nat}{t:TypeId}{cs:List D}(hv:H[v]? = some (.row t g cs)){L:Loc}(e7:c.ι v g=some L) :
  fj G (c.set v (g+1) L) (H.set v (.row t (g+1) [])) w∧Step H.length c H w (c.set v (g+1) L) (H.set v (.row t (g+1) [])) w:=by
 refine PT h hv e7 L ⟨⟨rfl,Nat.le_refl _⟩,rfl,rfl,Nat.le_refl _⟩ (fun _ _ _=>rfl) (fun kV=>⟨.inr ⟨kV,rfl⟩,h.lt _ ⟨v,L,⟨_,hv,rfl,e7⟩,kV,rfl⟩⟩) [] fun _=>?_
 have h0:=h.ob v _ hv
 simp only[Ob.gen]at h0
 rw[e7]at h0
 simp only[fX]at h0 ⊢
 split
 ·simp
 ·rename_i kV
  simp only[kV]at h0
  obtain⟨arr,h1,h2,h3,_⟩:=h0
  exact⟨arr,h1,h2,by simp;omega,by simp⟩
theorem KP{t u ty e:TypeId}{i:TypeInfo}{zv:Value}(ht:P.underlying t=some (.slice e))(hu:∃ e',P.underlying u=some (.slice e'))(hi:P.info? e=some i)(hz:i.zero=some zv)
  (b:Option Addr) (mm qZ:Nat) (y:Value) (yb:Option Addr) (n yc:Nat) (hy:y = .slice yb n yc) (Qc news:List Value)
  (hold:(Builtin.firstCells i.size mm (.slice b mm qZ)).run P w.drew = .ok Qc.toArray w.drew) (kT:(Builtin.firstCells i.size n y).run P w.drew = .ok news.toArray w.drew)
  (hg:qZ<mm+n) (xN:mm+n≤9223372036854775807) (hb:(mm+n)*i.bytes≤140737488355328) :
  (Builtin.append_ #[t,u] ty #[.slice b mm qZ,y]).run P w = .ok (.slice (some ⟨w.heap.size,0,none⟩) (mm+n) (grownCap w (mm+n) qZ e))
    (w.drew.alloc (.cells (Qc.toArray++news.toArray++Builtin.zeroCells zv.cells (grownCap w (mm+n) qZ e-(mm+n))) e)):=by
 subst hy
 obtain⟨e',hu⟩:=hu
 have hn:¬ (mm+n≤qZ):=by omega
 have NM:¬ (9223372036854775807<((mm:Int)+(n:Int))):=by omega
 have IK:¬ (281474976710656<Builtin.nextslicecap (mm+n) qZ*i.bytes):=by have:=growslice_fits hg hb;omega
 simp[Builtin.append_,run_underlying ht,run_underlying hu,sizeOf,typeInfo,zeroValue,hi,hz,Builtin.lenOf,hn,NM,IK,Question.forced,newRow,grownCap,hold,kT]
 congr 2
 apply ey
 simp[bt]
theorem adB{t u ty e:TypeId}{i:TypeInfo}(ht:P.underlying t=some (.slice e))(hu:∃ e',P.underlying u=some (.slice e'))(hi:P.info? e=some i)
  (b o:Nat) (mm qZ:Nat) (y:Value) (yb:Option Addr) (n yc:Nat) (hy:y = .slice yb n yc) (news:List Value) (arr:Array Value) (hg:w.heap[b]? = some (.cells arr e (0,0)))
  (kT:(Builtin.firstCells i.size n y).run P w = .ok news.toArray w) (h1:∀ v∈news,v.oneCell'=true) (AP:mm+n≤qZ) (kS:o+mm*i.size+news.length≤arr.size) :
  (Builtin.append_ #[t,u] ty #[.slice (some ⟨b,o,none⟩) mm qZ,y]).run P w = .ok (.slice (some ⟨b,o,none⟩) (mm+n) qZ)
    (w.setRow b (arr.toList.take (o+mm*i.size)++news++arr.toList.drop (o+mm*i.size+news.length)).toArray):=by
 subst hy
 obtain⟨e',hu⟩:=hu
 have fg:=run_storeCells_at P b (o+mm*i.size) e news 0 arr w hg (by simpa using kS) h1
 simp only[bS]at fg
 simp[Builtin.append_,run_underlying ht,run_underlying hu,sizeOf,typeInfo,hi,Builtin.lenOf,AP,kT,Addr.add_lit,fg]
theorem Ix{sz:Nat}{w':World}{yb:Option Addr}{yc n:Nat}{vs:List Value}(hl:vs.length=n*sz)(mY:yb=none→n=0)(hc:∀ ad,yb=some ad→∀ (j:Nat) (v:Value),vs[j]? = some v→w'.cell? (ad.add j)=some v) :
  (Builtin.firstCells sz n (.slice yb n yc)).run P w' = .ok vs.toArray w':=by
 cases yb with
 | none=>
  have:=mY rfl
  subst this
  have:vs = []:=bk (by simpa using hl)
  subst this
  exact run_firstCells_none w' sz 0 0 yc
 | some ad=>exact run_firstCells_some w' sz n ad n yc vs hl (hc ad rfl)
theorem NJ(w:World)(o:Obj):iM w (w.drew.alloc o):=(iM.drew w).trans (iM.alloc _ _)
theorem ab9(h:fj G c H w){al:Al}(fZ:kZ H al){t u ty e:TypeId}{i:TypeInfo}{z:List D}(ht:P.underlying t=some (.slice e))(hu:∃ e',P.underlying u=some (.slice e'))(hi:P.info? e=some i)(hz:nZ P e=some z)(yg:z.length=i.size)(jr:0<i.size)
  {x y:D} {ux uy:Value} (h1:eV c w ux x) (h2:eV c w uy y) (hk:zu e i.size i.bytes x y H al K):∃ r w',(Builtin.append_ #[t,u] ty #[ux,uy]).run P w = .ok r w'∧ia G c H w K r w':=by
 obtain⟨zv,s9,F',pI⟩:=uT hz w
 have AX:i.zero=some zv:=by simpa[hi]using F'
 have rT:zv.cells.size=i.size:=by have:=(pI c w).len;simp at this;omega
 unfold zu at hk
 split at hk
 ·rename_i ys n oj
  obtain⟨yb,yc,vs,nP,jb,jj,OX,AW,AV⟩:=K1 h jr h2 oj
  have gT:vs.length=n*i.size:=by rw[jb.len,jj]
  have kT:∀ w',(∀ b,w'.cell? b=w.cell? b)→(Builtin.firstCells i.size n uy).run P w' = .ok vs.toArray w':=fun w' qQ=>by
   rw[nP];exact Ix gT AW (fun ad ha j v hj=>by rw[qQ];exact AV ad ha j v hj)
  split at hk
  ·rename_i v g fV off len
   split at hk
   ·rename_i t' cs gf
    have hv:=qt gf
    dsimp only at hv
    obtain⟨⟨rfl,OP,hlen,nv,xN⟩,hk⟩:=hk
    have We:=OP.symm
    subst We
    clear OP
    have Wq:v<H.length:=(ae.1 hv).1
    cases h1 with
    | eT _ _ _ _ _ cap L e7 gw iQ ji kc=>
     obtain⟨arr,xP,IT,UH,IU⟩:=uQ h hv e7 gw
     have FP:Cells c w (((((arr.toList.drop L.base).take cs.length)).drop (off*i.size)).take (len*i.size)) ((cs.drop (off*i.size)).take (len*i.size)):=(IU.drop _).take _
     rw[bp]at kc hlen
     generalize off*i.size=q at *
     by_cases AP:len+n≤cap
     ·have kS:L.base+q+len*i.size+vs.length≤arr.size:=by
       have hm:=bx i.size AP
       rw[bp]at hm
       omega
      have gS:=adB (ty:=ty) ht hu hi L.b (L.base+q) len cap uy yb n yc nP vs arr xP (kT w fun _=>rfl) jb.one AP kS
      refine⟨_,_,gS,?_⟩
      have gy:(arr.toList.take (L.base+q+len*i.size)++vs++arr.toList.drop (L.base+q+len*i.size+vs.length)).toArray.size=arr.size:=by simp;omega
      obtain⟨m1,m2⟩:=Kl (w':=w.setRow L.b (arr.toList.take (L.base+q+len*i.size)++vs++arr.toList.drop (L.base+q+len*i.size+vs.length)).toArray) h hv e7 ⟨L.b,L.base+q,L.top,false⟩ rfl
       ⟨⟨rfl,Nat.le_refl _⟩,rfl,rfl,by simp[World.setRow]⟩ (fun b _ hn=>by simp only[World.setRow,bN];rw[if_neg (fun e=>hn ⟨gw,e.symm⟩)])
       ⟨.inr ⟨gw,rfl⟩,by have:=h.lt _ ⟨v,L,⟨_,hv,rfl,e7⟩,gw,rfl⟩;simpa[World.setRow]using this⟩
       _ (setRow_heap w L.b arr _ _ _ xP) (by show L.top=_;rw[IT,gy]) ((cs.drop q).take (len*i.size)++ys) (by simp only[ax,aS,br];rw[← jb.len];omega) (fun j d hd=>by
        obtain⟨x,hx,nQ,kf⟩:=(FP.append jb).get hd
        refine⟨x,?_,nQ,kf⟩
        rw[← hx]
        simp only[c6]
        have gW:(List.take (L.base+q+len*i.size) arr.toList).length=L.base+q+len*i.size:=by simp;omega
        have hJ:(List.take (len*i.size) (List.drop q (List.take cs.length (List.drop L.base arr.toList)))).length=len*i.size:=by simp;omega
        by_cases c1:j<len*i.size
        ·rw[ag (by simp;omega),ag (by rw[gW];omega),ag (by rw[hJ];omega)]
         simp only[aA,aB]
         rw[if_pos (by omega),if_pos (by omega),if_pos (by omega)]
         congr 1;omega
        ·have mF:j<len*i.size+vs.length:=by have:=(ae.1 hx).1;rw[ax,hJ]at this;omega
         rw[ag (by rw[ax,gW];omega),ak (by rw[gW];omega),ak (by rw[hJ];omega),gW,hJ]
         congr 1
         omega)
      refine⟨_,_,_,hk,m1,?_,m2⟩
      have:=eV.eT (c:=c.set v (g+1) ⟨L.b,L.base+q,L.top,false⟩) (w:=w.setRow L.b (arr.toList.take (L.base+q+len*i.size)++vs++arr.toList.drop (L.base+q+len*i.size+vs.length)).toArray) v (g+1) i.size 0 (len+n) cap ⟨L.b,L.base+q,L.top,false⟩ (Ctx.pT _ _ _ _) rfl AP ji (by simp;omega)
      simpa using this
     ·have hold:(Builtin.firstCells i.size len (.slice (some ⟨L.b,L.base+q,none⟩) len cap)).run P w.drew = .ok ((((arr.toList.drop L.base).take cs.length).drop q).take (len*i.size)).toArray w.drew:=by
       refine run_firstCells_some _ _ _ _ _ _ _ (by rw[FP.len];simp;omega) (fun j v hj=>?_)
       rw[aA]at hj
       split at hj
       ·rw[aB,aA]at hj
        split at hj
        ·rw[aB]at hj
         rw[Addr.add_lit]
         show w.cell? ⟨L.b,L.base+q+j,none⟩=some v
         simp[World.cell?,xP]
         rw[bj]
         simpa using hj
        ·cases hj
       ·cases hj
      have gS:=KP (ty:=ty) ht hu hi AX (some ⟨L.b,L.base+q,none⟩) len cap uy yb n yc nP _ vs hold (kT _ fun _=>rfl) (by omega) xN nv
      refine⟨_,_,gS,?_⟩
      have ON:((((arr.toList.drop L.base).take cs.length).drop q).take (len*i.size)).toArray.size=len*i.size:=by have:=FP.len;simp at this ⊢;omega
      have sS:=grownCap_ge w (len+n) cap e
      have mX:=grownCap_le_maxLen w (len+n) cap e (by unfold maxLen;omega)
      obtain⟨m1,m2⟩:=Kl (w':=w.drew.alloc (.cells (((((arr.toList.drop L.base).take cs.length).drop q).take (len*i.size)).toArray++vs.toArray++Builtin.zeroCells zv.cells (grownCap w (len+n) cap e-(len+n))) e)) h hv e7
       ⟨w.heap.size,0,grownCap w (len+n) cap e*i.size,false⟩ rfl ⟨⟨rfl,Nat.le_succ _⟩,rfl,rfl,by simp⟩ (fun b hb _=>(NJ w _).kept b hb) ⟨.inl (Nat.le_refl _),by simp⟩
       _ (heap_alloc_new w.drew _) (by
        simp only[cM,ON,dz,gT,size_zeroCells,rT,← bp]
        congr 1;omega) ((cs.drop q).take (len*i.size)++ys) (by
        simp only[ax,aS,br,jj,aY]
        have:=bx i.size sS
        rw[bp]at this
        omega) (fun j d hd=>by
        obtain⟨x,hx,nQ,kf⟩:=(FP.append jb).get hd
        refine⟨x,?_,nQ,kf⟩
        rw[← hx,aY,← bE]
        have ft:=(ae.1 hx).1
        simp only[db]
        rw[ag (by simpa using ft)])
      refine⟨_,_,_,hk,m1,?_,m2⟩
      have:=eV.eT (c:=c.set v (g+1) ⟨w.heap.size,0,grownCap w (len+n) cap e*i.size,false⟩) (w:=w.drew.alloc (.cells (((((arr.toList.drop L.base).take cs.length).drop q).take (len*i.size)).toArray++vs.toArray++Builtin.zeroCells zv.cells (grownCap w (len+n) cap e-(len+n))) e))
       v (g+1) i.size 0 (len+n) (grownCap w (len+n) cap e) ⟨w.heap.size,0,grownCap w (len+n) cap e*i.size,false⟩ (Ctx.pT _ _ _ _) rfl sS mX (by simp)
      simpa using this
    | lu _ _ _ _ L e7 ad=>
     simp only[aY,bS,cr,dv,aU]at hk nv xN ⊢
     by_cases hn:n=0
     ·subst hn
      have JL:vs = []:=bk (by simpa using gT)
      have WL:ys = []:=bk (by simpa using jj)
      subst WL
      have gS:(Builtin.append_ #[t,u] ty #[.slice ad 0 0,uy]).run P w = .ok (.slice ad 0 0) w:=by
       obtain⟨e',hu⟩:=hu
       have we:=kT w fun _=>rfl
       rw[JL]at we
       rw[nP]at we ⊢
       simp[Builtin.append_,run_underlying ht,run_underlying hu,sizeOf,typeInfo,hi,Builtin.lenOf,we]
       cases ad<;>simp[storeCells]
      obtain⟨m1,m2⟩:=Ta h hv e7
      exact⟨_,_,gS,_,_,_,hk,m1,.lu v (g+1) i.size 0 L (Ctx.pT _ _ _ _) ad,m2⟩
     ·have hold:(Builtin.firstCells i.size 0 (.slice ad 0 0)).run P w.drew = .ok ([]:List Value).toArray w.drew:=Ix (by simp) (fun _=>rfl) (fun _ _ j v hj=>by simp at hj)
      have gS:=KP (w:=w) (ty:=ty) ht hu hi AX ad 0 0 uy yb n yc nP [] vs hold (kT _ fun _=>rfl) (by omega) (by omega) (by simpa using nv)
      simp only[aY]at gS
      refine⟨_,_,gS,?_⟩
      have sS:=grownCap_ge w n 0 e
      have mX:=grownCap_le_maxLen w n 0 e (by unfold maxLen;omega)
      obtain⟨m1,m2⟩:=Kl (w':=w.drew.alloc (.cells (([]:List Value).toArray++vs.toArray++Builtin.zeroCells zv.cells (grownCap w n 0 e-n)) e)) h hv e7
       ⟨w.heap.size,0,grownCap w n 0 e*i.size,false⟩ rfl ⟨⟨rfl,Nat.le_succ _⟩,rfl,rfl,by simp⟩ (fun b hb _=>(NJ w _).kept b hb) ⟨.inl (Nat.le_refl _),by simp⟩
       _ (heap_alloc_new w.drew _) (by
        simp only[cM,dz,cI,gT,size_zeroCells,rT,aY,← bp]
        congr 1;omega) ys (by
        simp only[jj,aY]
        exact bx i.size sS) (fun j d hd=>by
        obtain⟨x,hx,nQ,kf⟩:=jb.get hd
        refine⟨x,?_,nQ,kf⟩
        rw[← hx,aY,← bE]
        have ft:=(ae.1 hx).1
        simp only[db,aU]
        rw[ag (by simpa using ft)])
      refine⟨_,_,_,hk,m1,?_,m2⟩
      have:=eV.eT (c:=c.set v (g+1) ⟨w.heap.size,0,grownCap w n 0 e*i.size,false⟩) (w:=w.drew.alloc (.cells (([]:List Value).toArray++vs.toArray++Builtin.zeroCells zv.cells (grownCap w n 0 e-n)) e))
       v (g+1) i.size 0 n (grownCap w n 0 e) ⟨w.heap.size,0,grownCap w n 0 e*i.size,false⟩ (Ctx.pT _ _ _ _) rfl sS mX (by simp)
      simpa using this
   ·exact hk.elim
  ·cases h1 with
   | emp=>
    by_cases hn:n=0
    ·rw[if_pos hn]at hk
     subst hn
     have JL:vs = []:=bk (by simpa using gT)
     have gS:(Builtin.append_ #[t,u] ty #[.slice none 0 0,uy]).run P w = .ok (.slice none 0 0) w:=by
      obtain⟨e',hu⟩:=hu
      have we:=kT w fun _=>rfl
      rw[JL]at we
      rw[nP]at we ⊢
      simp[Builtin.append_,run_underlying ht,run_underlying hu,sizeOf,typeInfo,hi,Builtin.lenOf,we]
     exact⟨_,_,gS,.plain h hk .emp⟩
    ·rw[if_neg hn]at hk
     obtain⟨⟨nv,xN⟩,hk⟩:=hk
     have hold:(Builtin.firstCells i.size 0 (.slice none 0 0)).run P w.drew = .ok ([]:List Value).toArray w.drew:=Ix (by simp) (fun _=>rfl) (fun _ _ j v hj=>by simp at hj)
     have gS:=KP (w:=w) (ty:=ty) ht hu hi AX none 0 0 uy yb n yc nP [] vs hold (kT _ fun _=>rfl) (by omega) (by omega) (by simpa using nv)
     simp only[aY]at gS
     refine⟨_,_,gS,?_⟩
     have sS:=grownCap_ge w n 0 e
     have mX:=grownCap_le_maxLen w n 0 e (by unfold maxLen;omega)
     have gy:(([]:List Value).toArray++vs.toArray++Builtin.zeroCells zv.cells (grownCap w n 0 e-n)).size=grownCap w n 0 e*i.size:=by
      simp only[cM,dz,cI,gT,size_zeroCells,rT,aY,← bp]
      congr 1;omega
     obtain⟨L,e1,e2,e3,e4,e5,e6⟩:=Bk h w.drew (iM.drew w) e vs ys vs.length (([]:List Value).toArray++vs.toArray++Builtin.zeroCells zv.cells (grownCap w n 0 e-n)) (fZ _).qu jb (by
      simp only[db,aU]
      exact List.take_left) (by simp only[cM,dz];omega)
     have hp:=GK (c:=c) (w:=w.drew.alloc (.cells (([]:List Value).toArray++vs.toArray++Builtin.zeroCells zv.cells (grownCap w n 0 e-n)) e)) e1 e3 al.1 0 i.size n (grownCap w n 0 e) (by rw[e4,gy]) sS mX
     rw[e2]at hp
     exact⟨_,_,_,hk,e5,hp,e6⟩
  ·exact hk.elim
 ·exact hk.elim
theorem acm(h:fj G c H w){t u ty e:TypeId}{sz:Nat}(ht:P.underlying t=some (.slice e))(hs:jg P e=some sz)(jr:0<sz){x y:D}{ux uy:Value}(h1:eV c w ux x)(h2:eV c w uy y)(hk:zU sz x y H K) :
  ∃ r w',(Builtin.copy_ #[t,u] ty #[ux,uy]).run P w = .ok r w'∧ia G c H w K r w':=by
 have key:∀ (ys:List D) (n:Nat),jM sz H y=some (ys,n)→∃ vs yb yc,uy = .slice yb n yc∧Cells c w vs ys∧ys.length=n*sz∧∀ m,m≤n→(Builtin.firstCells sz m uy).run P w = .ok (vs.take (m*sz)).toArray w:=by
  intro ys n oj
  obtain⟨yb,yc,vs,nP,jb,jj,OX,AW,AV⟩:=K1 h jr h2 oj
  refine⟨vs,yb,yc,nP,jb,jj,fun m hm=>?_⟩
  have gT:vs.length=n*sz:=by rw[jb.len,jj]
  have hle:=bx sz hm
  rw[nP]
  cases yb with
  | none=>
   have:=AW rfl
   subst this
   have:m=0:=by omega
   subst this
   simp[Builtin.firstCells]
  | some ad=>
   refine run_firstCells_some w sz m ad n yc _ (by simp;omega) (fun j v hj=>?_)
   rw[aA]at hj
   split at hj
   ·exact AV ad rfl j v hj
   ·cases hj
 unfold zU at hk
 split at hk
 ·rename_i v g fV off len ys n oj
  obtain⟨vs,yb,yc,nP,jb,jj,I6⟩:=key ys n oj
  split at hk
  ·rename_i t' cs gf
   have hv:=qt gf
   dsimp only at hv
   obtain⟨⟨rfl,kS⟩,hk⟩:=hk
   have hf:=I6 (min n len) (Nat.min_le_left _ _)
   have hle:min n len*fV≤vs.length:=by rw[jb.len,jj];exact bx _ (Nat.min_le_left _ _)
   have ajG:min n len*fV≤len*fV:=bx _ (Nat.min_le_right _ _)
   rw[bp]at kS
   cases h1 with
   | eT _ _ _ _ _ cap L e7 gw iQ ji kc=>
    obtain⟨arr,xP,IT,UH,IU⟩:=uQ h hv e7 gw
    have fg:=run_storeCells_at P L.b (L.base+off*fV) t' (vs.take (min n len*fV)) 0 arr w xP (by simp;omega) (fun v hv=>jb.one v (aM hv))
    simp only[bS]at fg
    have gS:(Builtin.copy_ #[t,u] ty #[.slice (some ⟨L.b,L.base+off*fV,none⟩) len cap,uy]).run P w = .ok (goInt (min n len:Nat)) (w.setRow L.b (arr.toList.take (L.base+off*fV)++vs.take (min n len*fV)++arr.toList.drop (L.base+off*fV+(vs.take (min n len*fV)).length)).toArray):=by
     rw[nP]at hf ⊢
     have hm:n.min len=min n len:=rfl
     simp[Builtin.copy_,run_underlying ht,Builtin.lenOf,pj hs,hm,hf,fg]
    have gT:(vs.take (min n len*fV)).length=min n len*fV:=by simp;omega
    have N1:=IU.oR (jb.take (min n len*fV)) (off*fV)
    have WG:(ys.take (min n len*fV)).length=min n len*fV:=by rw[aS,← jb.len];omega
    obtain⟨m1,m2⟩:=B9 h hv e7 gw xP (arr.toList.take (L.base+off*fV)++vs.take (min n len*fV)++arr.toList.drop (L.base+off*fV+(vs.take (min n len*fV)).length)).toArray (by simp;omega) IT
     (cs.take (off*fV)++ys.take (min n len*fV)++cs.drop (off*fV+min n len*fV)) (by simp only[ax,aS,br];omega) (fun j d hd=>by
      rw[WG,gT]at N1
      obtain⟨x,hx,nQ,kf⟩:=N1.get hd
      refine⟨x,?_,nQ,kf⟩
      rw[← hx]
      simp only[c6,gT]
      have gW:(List.take (L.base+off*fV) arr.toList).length=L.base+off*fV:=by simp;omega
      have hJ:(List.take (off*fV) (List.take cs.length (List.drop L.base arr.toList))).length=off*fV:=by simp;omega
      by_cases c1:j<off*fV
      ·rw[ag (by simp;omega),ag (by rw[gW];omega),ag (by simp;omega),ag (by rw[hJ];omega)]
       simp only[aA,aB]
       rw[if_pos (by omega),if_pos c1,if_pos (by omega)]
      ·by_cases c2:j<off*fV+min n len*fV
       ·rw[ag (by rw[ax,gW,gT];omega),ak (by rw[gW];omega),ag (by rw[ax,hJ,gT];omega),ak (by rw[hJ];omega),gW,hJ]
        congr 1
        omega
       ·have mE:j<cs.length:=by have:=(ae.1 hd).1;simp at this;omega
        rw[ak (by rw[ax,gW,gT];omega),ak (by rw[ax,hJ,gT];omega)]
        simp only[aB,aA,ax,gW,hJ,gT]
        rw[if_pos (by omega)]
        congr 1
        omega)
    exact⟨_,_,gS,_,_,c,hk,m1,.val _,m2⟩
   | lu _ _ _ _ L e7 ad=>
    have AE:min n 0=0:=eR n
    simp only[AE,cr,dv,aw,bS,bO]at hk hf
    have mg:H.set v (.row t' g cs)=H:=by
     apply bM
     intro j
     rw[bF]
     have gT:v<H.length:=(ae.1 hv).1
     split
     ·rename_i e
      subst e
      first|(rw[if_pos gT];exact hv.symm)|exact hv.symm
     ·rfl
    rw[mg]at hk
    refine⟨goInt 0,w,?_,.plain h hk (.val _)⟩
    rw[nP]at hf ⊢
    have hm:n.min 0=0:=eR n
    simp[Builtin.copy_,run_underlying ht,Builtin.lenOf,pj hs,hm,hf]
    cases ad<;>simp[storeCells]
  ·exact hk.elim
 ·rename_i q oj
  obtain⟨ys,n⟩:=q
  obtain⟨vs,yb,yc,nP,jb,jj,I6⟩:=key ys n oj
  cases h1 with
  | emp=>
   have hf:=I6 0 (Nat.zero_le _)
   refine⟨goInt 0,w,?_,.plain h hk (.val _)⟩
   rw[nP]at hf ⊢
   have hm:n.min 0=0:=eR n
   simp only[cr,dv]at hf
   simp[Builtin.copy_,run_underlying ht,Builtin.lenOf,pj hs,hm,hf]
 ·exact hk.elim
end
end Go.AL
namespace Go.AL
open Go
section
variable{P:Program}{G:GT}{c:Ctx}{H:U}{w:World}{K:iw}{env:fO}{a:Act}
theorem Pb{x:D}{kv u:Value}(hr:eV c w u x)(h:keyOf x=some kv):u=kv:=by
 unfold keyOf at h
 split at h
 ·cases h;cases hr;rfl
 ·cases h;cases hr;rfl
 ·cases h;cases hr;rfl
 ·rename_i cs
  simp only[ai]at h
  obtain⟨l,hl,rfl⟩:=h
  cases hr with
  | agg vs _ hlen _ h1=>
   have key:∀ (cs:List D) (vs l:List Value),A5 cs=some l→vs.length=cs.length→(∀ (i:Nat) (v:Value) (d:D),vs[i]? = some v→cs[i]? = some d→eV c w v d)→vs=l:=by
    intro cs
    induction cs with
    | nil=>intro vs l hl hlen _;simp[A5]at hl;subst hl;exact bk (by simpa using hlen)
    | cons d cs ih=>
     intro vs l hl hlen h1
     cases vs with
     | nil=>simp at hlen
     | cons v vs=>
      unfold A5 at hl
      split at hl
      ·rename_i heq;cases heq
      ·rename_i k n r heq
       cases heq
       simp only[ai]at hl
       obtain⟨l',lj,rfl⟩:=hl
       have h0:=h1 0 v _ rfl rfl
       cases h0
       rw[ih vs l' lj (by simpa using hlen) (fun i v d hv hd=>h1 (i+1) v d (by simpa using hv) (by simpa using hd))]
      ·cases hl
   rw[key cs vs l hl hlen h1]
 ·cases h
theorem K8{t:TypeId}{kk:KK}(h:rW P t=some kk):∃ d,P.underlying t=some d∧((∃ k,d = .int k∧kk = .int k)∨(d = .string∧kk = .str)∨(d = .bool∧kk = .bool)):=by
 unfold rW at h
 split at h
 ·rename_i k hu;cases h;exact⟨_,hu,.inl ⟨k,rfl,rfl⟩⟩
 ·rename_i hu;cases h;exact⟨_,hu,.inr (.inl ⟨rfl,rfl⟩)⟩
 ·rename_i hu;cases h;exact⟨_,hu,.inr (.inr ⟨rfl,rfl⟩)⟩
 ·cases h
theorem run_checkKey{t:TypeId}{kk:KK}(h:rW P t=some kk)(b:Bool){kv:Value}(_hk:kk.has kv=true)(w:World):(Instr.checkKey b 10000 t kv).run P w = .ok () w:=by
 obtain⟨d,hd,hc⟩:=K8 h
 unfold Instr.checkKey
 rcases hc with⟨k,rfl,rfl⟩|⟨rfl,rfl⟩|⟨rfl,rfl⟩<;>simp only[Sem.run_bind,run_underlying hd,Result.andThen_ok]<;>rfl
def qD(kv:Value):List MapEntry→Nat→Option (Nat×Value)
 | [],_=>none
 | e::es,i=>if nS kv e.key then some (i,e.val)else qD kv es (i+1)
theorem T0{d:TypeDesc}{kk:KK}(hc:(∃ k,d = .int k∧kk = .int k)∨(d = .string∧kk = .str)∨(d = .bool∧kk = .bool)){kv:Value}(hk:kk.has kv=true) :
  ∀ (es:List MapEntry) (i:Nat),(∀ e∈es,kk.has e.key=true)→Instr.findNow d kv es i=some (qD kv es i):=by
 intro es
 induction es with
 | nil=>intro i _;rfl
 | cons e es ih=>
  intro i h
  have he:=h e (by simp)
  have JS:=ih (i+1) (fun e he=>h e (by simp[he]))
  unfold Instr.findNow qD
  have hs:Instr.sameNow d kv e.key=some (nS kv e.key):=by
   obtain⟨key,val,born⟩:=e
   rcases hc with⟨k,rfl,rfl⟩|⟨rfl,rfl⟩|⟨rfl,rfl⟩<;>cases kv<;>simp[KK.has]at hk<;>cases key<;>simp[KK.has]at he<;>simp[Instr.sameNow,nS]
   subst hk;subst he;simp
  rw[hs]
  cases nS kv e.key
  ·simp only[JS];rfl
  ·rfl
theorem run_findKey{t:TypeId}{kk:KK}(h:rW P t=some kk){kv:Value}(hk:kk.has kv=true)(es:List MapEntry)(qb:∀ e∈es,kk.has e.key=true)(w:World) :
  (Instr.findKey t kv es).run P w = .ok (qD kv es 0) w:=by
 obtain⟨d,hd,hc⟩:=K8 h
 simp[Instr.findKey,run_underlying hd,T0 hc hk es 0 qb]
theorem PI{arr:Array MapEntry}{clock:Nat}{es:List (Value×D)}(hm:zo c w arr clock es){kk:KK}(hk:∀ x∈es,kk.has x.1=true):∀ e∈arr.toList,kk.has e.key=true:=by
 intro e he
 obtain⟨i,hi⟩:=aD.1 he
 have hl:i<es.length:=by rw[← hm.1];have:=(ae.1 hi).1;simpa using this
 obtain⟨h1,_⟩:=hm.2.1 i e es[i] (by simpa using hi) (by simp[hl])
 rw[h1]
 exact hk _ (bJ hl)
theorem Iw(kv:Value):∀ (l:List MapEntry) (es:List (Value×D)) (i:Nat),l.length=es.length →
  (∀ (j:Nat) (e:MapEntry) (x:Value×D),l[j]? = some e→es[j]? = some x→e.key=x.1∧eV c w e.val x.2) →
  (qD kv l i=none∧kI es kv=none∧∀ y,jA es kv y=es ++ [(kv,y)]) ∨
  (∃ j v d,qD kv l i=some (i+j,v)∧kI es kv=some d∧eV c w v d∧j<l.length∧(∀ y,jA es kv y=es.set j (kv,y))∧∃ e,l[j]? = some e∧nS kv e.key=true)
 | [],[],i,_,_=>.inl ⟨rfl,rfl,fun _=>rfl⟩
 | e::l,(k,d)::es,i,hl,h=>by
  obtain⟨hk,hr⟩:=h 0 e (k,d) rfl rfl
  dsimp only at hk hr
  by_cases he:nS kv e.key=true
  ·refine .inr ⟨0,e.val,d,by simp[qD,he],by simp[kI,← hk,he],hr,by simp,fun y=>by simp[jA,← hk,he],e,rfl,he⟩
  ·have vP:nS kv k=false:=by rw[← hk];simpa using he
   rcases Iw kv l es (i+1) (by simpa using hl) (fun j e x he hx=>h (j+1) e x (by simpa using he) (by simpa using hx))with⟨h1,h2,h3⟩|⟨j,v,d',h1,h2,h3,h4,h5,e',h6,h7⟩
   ·exact .inl ⟨by simp[qD,he,h1],by simp[kI,vP,h2],fun y=>by simp[jA,vP,h3]⟩
   ·exact .inr ⟨j+1,v,d',by simp[qD,he,h1];omega,by simp[kI,vP,h2],h3,by simp;omega,fun y=>by simp[jA,vP,h5],e',by simpa using h6,h7⟩
theorem acy(h:fj G c H w){t k e:TypeId}{kk:KK}{z:D}(hu:P.underlying t=some (.map k e))(jK:rW P k=some kk)(hz:Le P e=some z)(ok:Bool){m x:D}{u v:Value}(h1:eV c w u m)(h2:eV c w v x)
  (hk:Bb kk z ok m x H K):∃ r,(Instr.lookup t u v ok).run P w = .ok r w∧ia G c H w K r w:=by
 have hzero:∃ zv,(zeroValue e).run P w = .ok zv w∧eV c w zv z:=by
  unfold Le at hz
  cases hi:P.info? e with
  | none=>simp[hi]at hz
  | some i=>
   simp only[hi,Option.bind_some]at hz
   cases JP:i.zero with
   | none=>simp[JP]at hz
   | some zv=>
    simp only[JP,Option.bind_some]at hz
    exact⟨zv,by simp[zeroValue,run_typeInfo hi,JP],Qx hz⟩
 obtain⟨zv,s9,OY⟩:=hzero
 unfold Bb at hk
 split at hk
 ·rename_i v0 kv Je
  split at hk
  ·rename_i pe es qb
   obtain⟨rfl,vS,hk⟩:=hk
   have hv:=Pb h2 Je
   subst hv
   cases h1 with
   | omap _ L e7 gw=>
    have gi:=h.ob v0 _ (uJ qb)
    simp only[Ob.gen]at gi
    rw[e7]at gi
    simp only[fX]at gi
    obtain⟨_,FF,arr,clock,hm,mI⟩:=gi
    have FA:=run_findKey jK vS arr.toList (PI mI FF) w
    have rK:=run_checkKey (w:=w) jK arr.isEmpty vS
    have gS:(Instr.lookup t (.map (some L.b)) v ok).run P w=((match qD v arr.toList 0 with
      | some (_,v)=>Result.ok (v,true) w
      | none=>Result.ok (zv,false) w:Result (Value×Bool)).andThen fun p w=>.ok (if ok then .tuple #[p.1,.bool p.2]else p.1) w):=by
     have Av:(getObj L.b).run P w = .ok (.map arr clock) w:=by simp[getObj,Sem.run,hm]
     simp only[Instr.lookup,Sem.run_bind,run_underlying hu,Result.andThen_ok,Av,Sem.run_pure,rK,FA]
     cases qD v arr.toList 0 with
     | none=>simp[s9]
     | some p=>obtain⟨_,_⟩:=p;simp
    rcases Iw (c:=c) (w:=w) v arr.toList es 0 (by simpa using mI.1) (fun j e x he hx=>let ⟨a,b,_⟩:=mI.2.1 j e x (by simpa using he) hx;⟨a,b⟩)with⟨f1,f2,_⟩|⟨j,val,d,f1,f2,f3,_⟩
    ·rw[f1]at gS
     rw[f2]at hk
     refine⟨_,gS,.plain h hk ?_⟩
     cases ok
     ·exact OY
     ·exact .tup [zv,.bool false] [z,.val (.bool false)] rfl (fun i v d hv hd=>by
       match i with
       | 0=>simp at hv hd;subst hv;subst hd;exact OY
       | 1=>simp at hv hd;subst hv;subst hd;exact .val _
       | i+2=>simp at hv)
    ·rw[f1]at gS
     rw[f2]at hk
     refine⟨_,gS,.plain h hk ?_⟩
     cases ok
     ·exact f3
     ·exact .tup [val,.bool true] [d,.val (.bool true)] rfl (fun i v d' hv hd=>by
       match i with
       | 0=>simp at hv hd;subst hv;subst hd;exact f3
       | 1=>simp at hv hd;subst hv;subst hd;exact .val _
       | i+2=>simp at hv)
  ·exact hk.elim
 ·exact hk.elim
theorem adE{kk:KK}(jK:kk = .str∨kk = .bool∨∃ k,kk = .int k){old new:Value}(h1:kk.has new=true)(h2:kk.has old=true)(h:nS new old=true):Instr.sameBits 10000 old new=true:=by
 rcases jK with rfl|rfl|⟨k,rfl⟩<;>cases new<;>simp[KK.has]at h1<;>cases old<;>simp[KK.has]at h2<;>simp[nS]at h<;>simp[Instr.sameBits]
 ·rename_i x y
  obtain⟨x⟩:=x
  obtain⟨y⟩:=y
  have h':(x == y)=true:=h
  have e:=eq_of_beq h'
  subst e
  exact h
 ·exact h.symm
 ·exact⟨h.1.symm,h.2.symm⟩
theorem B8{G:GT}{c:Ctx}{H:U}{w:World}(h:fj G c H w){v:Nat}{ob ob':Ob}(hv:H[v]? = some ob)(ha:ob.alive=true)(oE:ob'.alive=true)(FC:ob'.gen=ob.gen){L:Loc}(e7:c.ι v ob.gen=some L)(gw:L.iv=false)(o':Obj)
  (gi:∀ w',w'.heap[L.b]? = some o'→(∀ u d,eV c w u d→eV c w' u d)→fX c w' (some L) ob') :
  fj G c (H.set v ob') { w with heap:=w.heap.setIfInBounds L.b o' }∧Step H.length c H w c (H.set v ob') { w with heap:=w.heap.setIfInBounds L.b o' }:=by
 have ft:=h.lt _ ⟨v,L,⟨ob,hv,ha,e7⟩,gw,rfl⟩
 refine Rx (w':={ w with heap:=w.heap.setIfInBounds L.b o' }) h hv ha oE FC e7 gw ⟨rfl,Nat.le_refl _⟩ rfl rfl (by simp) (fun b hb=>?_) (gi _ (by simp[ft]))
 rw[bG (dM hb)]
theorem Yj{es:List (Value×D)}{kv:Value}{y:D}:∀ x∈jA es kv y,x∈es∨x=(kv,y):=by
 induction es with
 | nil=>intro x hx;simp[jA]at hx;exact .inr hx
 | cons e es ih=>
  intro x hx
  obtain⟨k,d⟩:=e
  simp only[jA]at hx
  split at hx
  ·rcases aq.1 hx with rfl|hx
   ·exact .inr rfl
   ·exact .inl (by simp[hx])
  ·rcases aq.1 hx with rfl|hx
   ·exact .inl (by simp)
   ·rcases ih x hx with h|h
    ·exact .inl (by simp[h])
    ·exact .inr h
theorem P7(h:fj G c H w){t k e:TypeId}{kk:KK}(hu:P.underlying t=some (.map k e))(jK:rW P k=some kk){m x y:D}{u v vy:Value}(h1:eV c w u m)(h2:eV c w v x)(h3:eV c w vy y)
  (hk:Bd kk m x y H K):∃ w',(Instr.mapUpdate t u v vy).run P w = .ok () w'∧ia G c H w K undef w':=by
 have VW:kk = .str∨kk = .bool∨∃ k,kk = .int k:=by
  obtain⟨d,_,hc⟩:=K8 jK
  rcases hc with⟨k,_,rfl⟩|⟨_,rfl⟩|⟨_,rfl⟩
  ·exact .inr (.inr ⟨k,rfl⟩)
  ·exact .inl rfl
  ·exact .inr (.inl rfl)
 unfold Bd at hk
 split at hk
 ·rename_i v0 kv Je
  split at hk
  ·rename_i pe es qb
   obtain⟨rfl,vS,hk⟩:=hk
   have hv:=Pb h2 Je
   subst hv
   cases h1 with
   | omap _ L e7 gw=>
    have gi:=h.ob v0 _ (uJ qb)
    simp only[Ob.gen]at gi
    rw[e7]at gi
    simp only[fX]at gi
    obtain⟨_,FF,arr,clock,hm,mI⟩:=gi
    have NV:=PI mI FF
    have FA:=run_findKey jK vS arr.toList NV w
    have rK:=run_checkKey (w:=w) jK false vS
    have Ol:∀ y',∀ x∈jA es v y',pe.has x.1=true:=fun y' x hx=>by
     rcases Yj x hx with h|rfl
     ·exact FF x h
     ·exact vS
    rcases Iw (c:=c) (w:=w) v arr.toList es 0 (by simpa using mI.1) (fun j e x he hx=>let ⟨a,b,_⟩:=mI.2.1 j e x (by simpa using he) hx;⟨a,b⟩)with⟨f1,f2,f3⟩|⟨j,val,d,f1,f2,_,f4,f5,e',f6,f7⟩
    ·have gS:(Instr.mapUpdate t (.map (some L.b)) v vy).run P w = .ok () { w with heap:=w.heap.setIfInBounds L.b (.map (arr.push { key:=v,val:=vy,born:=clock }) (clock+1)) }:=by
      have Av:(getObj L.b).run P w = .ok (.map arr clock) w:=by simp[getObj,Sem.run,hm]
      simp only[Instr.mapUpdate,Sem.run_bind,run_underlying hu,Result.andThen_ok,Av,rK,FA,f1]
      simp[setObj,Sem.run,hm]
     obtain⟨m1,m2⟩:=B8 h (uJ qb) rfl rfl rfl e7 gw (.map (arr.push { key:=v,val:=vy,born:=clock }) (clock+1)) (ob':=.map pe (jA es v y)) (by
      intro w' qQ hr
      simp only[fX]
      refine⟨gw,Ol y,_,_,qQ,?_⟩
      rw[f3]
      refine⟨by simp[mI.1],fun i e x he hx=>?_,by simp[mI.2.2]⟩
      rw[Array.getElem?_push]at he
      split at he
      ·rename_i hi
       cases he
       rw[ak (by rw[hi,mI.1];exact Nat.le_refl _),hi,mI.1]at hx
       simp at hx
       subst hx
       exact⟨rfl,hr _ _ h3,by rw[hi,mI.1,mI.2.2]⟩
      ·have hi:i<es.length:=by rw[← mI.1];exact(aO.1 he).1
       rw[ag hi]at hx
       obtain⟨p,q,r⟩:=mI.2.1 i e x he hx
       exact⟨p,hr _ _ q,r⟩)
     exact⟨_,gS,.any,_,c,hk,m1,.any _,m2⟩
    ·have mF:j<arr.size:=by simpa using f4
     have Jb:arr[j]? = some e':=by simpa using f6
     have Vr:pe.has e'.key=true:=NV e' (a7 f6)
     have Wa:(Instr.keyThatStays e'.key v).run P w = .ok v w:=by
      simp[Instr.keyThatStays,adE VW vS Vr f7]
     have gS:(Instr.mapUpdate t (.map (some L.b)) v vy).run P w = .ok () { w with heap:=w.heap.setIfInBounds L.b (.map (arr.modify j fun e=>{ e with key:=v,val:=vy }) clock) }:=by
      have Av:(getObj L.b).run P w = .ok (.map arr clock) w:=by simp[getObj,Sem.run,hm]
      simp only[Instr.mapUpdate,Sem.run_bind,run_underlying hu,Result.andThen_ok,Av,rK,FA,f1,aY,Jb,a8,aV,Wa]
      simp[setObj,Sem.run,hm]
     obtain⟨m1,m2⟩:=B8 h (uJ qb) rfl rfl rfl e7 gw (.map (arr.modify j fun e=>{ e with key:=v,val:=vy }) clock) (ob':=.map pe (jA es v y)) (by
      intro w' qQ hr
      simp only[fX]
      refine⟨gw,Ol y,_,_,qQ,?_⟩
      rw[f5]
      refine⟨by simp[mI.1],fun i e x he hx=>?_,by simp[mI.2.2]⟩
      ·rw[bN]at he
       rw[bF]at hx
       split at he
       ·rename_i hi
        subst hi
        rw[if_pos rfl]at hx
        simp only[ai]at he
        obtain⟨e0,h0,rfl⟩:=he
        split at hx
        ·cases hx
         have hj:j<es.length:=by rw[← mI.1];exact mF
         exact⟨rfl,hr _ _ h3,(mI.2.1 j e0 es[j] h0 (by simp[hj])).2.2⟩
        ·cases hx
       ·rename_i hi
        rw[if_neg hi]at hx
        obtain⟨p,q,r⟩:=mI.2.1 i e x he hx
        exact⟨p,hr _ _ q,r⟩)
     exact⟨_,gS,.any,_,c,hk,m1,.any _,m2⟩
  ·exact hk.elim
 ·exact hk.elim
end
end Go.AL
namespace Go.AL
open Go
section
variable{P:Program}{G:GT}{c:Ctx}{H:U}{w:World}{K:iw}{env:fO}{a:Act}
theorem XH{t:TypeId}{l:mR}(hl:wx P t=some l)(d:Nat){x y:D}{u v:Value}(h1:eV c w u x)(h2:eV c w v y){r:Bool}(h:qz l x y=some r):(Op.equalIn (d+1) t u v).run P w = .ok r w:=by
 unfold qz at h
 split at h
 ·rename_i k m k' n
  cases h1;cases h2
  split at h
  ·rename_i e
   subst e
   cases h
   unfold wx at hl
   split at hl
   ·rename_i k0 hu;exact run_equalIn_int w d t k k0 m n hu
   ·cases hl
   ·cases hl
   ·cases hl
  ·cases h
 ·cases h1;cases h2
  cases h
  unfold wx at hl
  split at hl
  ·cases hl
  ·cases hl
  ·rename_i hu;exact run_equalIn_bool' w d t _ _ hu
  ·cases hl
 ·cases h1;cases h2
  cases h
  rename_i p q
  unfold wx at hl
  split at hl
  ·cases hl
  ·rename_i hu
   have:=run_equalIn_string (P:=P) w d t p q hu
   rw[ByteArray.toList_eq,ByteArray.toList_eq]at this
   exact this
  ·cases hl
  ·cases hl
 ·cases h
theorem XF{t:TypeId}{l:mR}(hl:wx P t=some l):nf P t=some false:=by
 unfold wx at hl
 unfold nf
 split at hl<;>first|(rename_i hu;simp[hu])|(rename_i k hu;simp[hu])|cases hl
theorem Nb(d:Nat){vs us:List Value}{xs ys:List D}(hx:Cells c w vs xs)(hy:Cells c w us ys):∀ (fs:List Field) (i:Nat) (ls:List mR) (r:Bool),E4 P i fs=some ls→my ls (xs.drop i) (ys.drop i)=some r →
  (Op.eqFields (d+1) vs.toArray us.toArray fs).run P w = .ok r w
 | [],i,ls,r,he,hc=>by
  cases he
  unfold my at hc
  split at hc
  ·cases hc;rfl
  ·rename_i heq _ _;cases heq
  ·cases hc
 | f::fs,i,ls,r,he,hc=>by
  simp only[E4]at he
  split at he
  ·rename_i l X7 hl AD
   split at he
   ·rename_i il
    obtain⟨nO,VK⟩:=il
    cases he
    cases uC:xs.drop i with
    | nil=>rw[uC]at hc;simp[my]at hc
    | cons x xr=>
     cases F9:ys.drop i with
     | nil=>rw[uC,F9]at hc;simp[my]at hc
     | cons y yr=>
      rw[uC,F9]at hc
      simp only[my]at hc
      split at hc
      ·rename_i p q hp hq
       cases hc
       have Ww:xs[i]? = some x:=by have:=congrArg (·[0]?) uC;simpa using this
       have WE:ys[i]? = some y:=by have:=congrArg (·[0]?) F9;simpa using this
       have Wy:xs.drop (i+1)=xr:=by rw[← dw,uC];rfl
       have WJ:ys.drop (i+1)=yr:=by rw[← dw,F9];rfl
       obtain⟨u,hu,_,Wk⟩:=hx.get Ww
       obtain⟨v,hv,_,JK⟩:=hy.get WE
       have ih:=Nb d hx hy fs (i+1) X7 q AD (by rw[Wy,WJ];exact hq)
       have hle:=XH (w:=w) hl d Wk JK hp
       have ha:=BL (XF hl) w
       have Jq:(part f.type vs.toArray f.offset).run P w = .ok u w:=by simp[part,ha,nO,hu]
       have xZ:(part f.type us.toArray f.offset).run P w = .ok v w:=by simp[part,ha,nO,hv]
       simp only[Op.eqFields,if_pos VK,Sem.run_bind,Jq,xZ,Result.andThen_ok,hle,Sem.run_ite,ih]
       cases p<;>simp
      ·cases hc
   ·cases he
  ·cases he
theorem P6(h:fj G c H w){t:TypeId}{ls:List mR}(ht:E5 P t=some ls)(neg:Bool){x y:D}{u v:Value}(h1:eV c w u x)(h2:eV c w v y)(hk:tX true ls neg x y H K)(xo yo:Operand) :
  ∃ r,(do eqGuard (if neg then .neq else .eql) t xo yo u v;binOp (if neg then .neq else .eql) t u v).run P w = .ok r w∧ia G c H w K r w:=by
 unfold E5 at ht
 split at ht
 ·rename_i fs hu
  split at ht
  ·rename_i il
   have hf:P.underlying t=some (.struct (P.fieldsOf t)):=by unfold Program.fieldsOf;rw[hu]
   have Va:P.fieldsOf t=fs:=by unfold Program.fieldsOf;rw[hu]
   have hx:∃ cs ds,x = .agg cs∧y = .agg ds:=by
    unfold tX at hk
    split at hk
    ·exact⟨_,_,rfl,rfl⟩
    ·contradiction
    ·exact hk.elim
   obtain⟨cs,ds,rfl,rfl⟩:=hx
   simp only[tX]at hk
   split at hk
   ·rename_i r hr
    cases h1 with
    | agg vs _ gW Ag Ul=>
     cases h2 with
     | agg us _ hJ Un Uo=>
      have U2:Cells c w vs cs:=⟨gW,Ag,Ul⟩
      have U3:Cells c w us ds:=⟨hJ,Un,Uo⟩
      have gS:=Nb (P:=P) 9998 U2 U3 fs.toList 0 ls r ht (by simpa using hr)
      have heq:(Op.equalIn 10000 t (.agg vs.toArray) (.agg us.toArray)).run P w = .ok r w:=by
       rw[run_equalIn_struct w 9999 t vs.toArray us.toArray hf il.1,Va]
       exact gS
      cases neg
      ·simp only[bH,if_false,Sem.run_bind,run_eqGuard_agg w .eql t xo yo vs.toArray us.toArray il.2,Result.andThen_ok,run_eql_struct,heq]
       exact⟨_,rfl,.val h (by simpa using hk)⟩
      ·simp only[if_true,Sem.run_bind,run_eqGuard_agg w .neq t xo yo vs.toArray us.toArray il.2,Result.andThen_ok,run_neq_struct,heq]
       exact⟨_,rfl,.val h (by simpa using hk)⟩
   ·exact hk.elim
  ·cases ht
 ·cases ht
theorem P5(h:fj G c H w){t:TypeId}(hu:P.underlying t=some .bool)(neg:Bool){x y:D}{u v:Value}(h1:eV c w u x)(h2:eV c w v y)(hk:tX false [.bool] neg x y H K)(xo yo:Operand) :
  ∃ r,(do eqGuard (if neg then .neq else .eql) t xo yo u v;binOp (if neg then .neq else .eql) t u v).run P w = .ok r w∧ia G c H w K r w:=by
 simp only[tX]at hk
 split at hk
 ·rename_i r hr
  simp only[my]at hr
  split at hr
  ·rename_i p q hp hq
   cases hq
   cases hr
   unfold qz at hp
   split at hp
   ·contradiction
   ·cases h1;cases h2
    cases hp
    rename_i b b' _
    have heq:=run_equalIn_bool' (P:=P) w 9999 t b b' hu
    have gv:Op.equal t (.bool b) (.bool b')=Op.equalIn 10000 t (.bool b) (.bool b'):=rfl
    cases neg
    ·exact⟨_,by simp[eqGuard,binOp,gv,heq]<;>rfl,.val h (by simpa using hk)⟩
    ·exact⟨_,by simp[eqGuard,binOp,gv,heq]<;>rfl,.val h (by simpa using hk)⟩
   ·contradiction
   ·cases hp
  ·cases hr
 ·exact hk.elim
theorem G5{f:FuncId}(h:o5 P f=true)(args:Array Value)(w:World):(callFunc f args).run P w = .ok (.enter f args) w:=by
 unfold o5 at h
 split at h
 ·rename_i fn hf
  simp only[ah,bne_iff_ne,ne_eq]at h
  have hb:fn.body.isNone=false:=by cases hb:fn.body<;>simp[hb]at h ⊢
  simp[callFunc,hf,h.1]
  intro e
  rw[e]at hb
  cases hb
 ·cases h
end
end Go.AL
namespace Go.AL
open Go
section
variable{P:Program}{G:GT}{c:Ctx}{H:U}{w:World}{K:iw}{env:fO}{a:Act}
def xj(r:Result Next)(v:Value)(w':World):Prop:=r = .ok (.value v) w'∨(r = .ok .skip w'∧v=undef)
theorem iC{s:Sem Value}{v:Value}{w':World}(h:s.run P w = .ok v w'):xj ((do pure (.value (← s)):Sem Next).run P w) v w':=.inl (by simp[h])
theorem Hv{s:Sem Unit}{w':World}(h:s.run P w = .ok () w'):xj ((do s;pure .skip:Sem Next).run P w) undef w':=.inr ⟨by simp[h],rfl⟩
theorem ack(h:fj G c H w){s d:TypeId}{sd:TypeDesc}{k:IntKind}(hs:P.underlying s=some sd)(hd:P.underlying d=some (.int k)){x:D}{u:Value}(h1:eV c w u x)
  (hk:zR k x H K):∃ r,(convert s d u).run P w = .ok r w∧ia G c H w K r w:=by
 unfold zR at hk
 split at hk
 ·rename_i k' n
  cases h1
  have nM:P.intKind d=k:=by simp[Program.intKind,hd]
  have:=run_convert_int (P:=P) w s d k' n (by rw[hs];rfl) (by rw[nM];exact hd)
  rw[nM]at this
  exact⟨_,this,.val h hk⟩
 ·exact hk.elim
theorem acD(h:fj G c H w){o:Oper}{x:Operand}(ho:o.op = .nilCheck x){d:D}(h1:eV c w (a.eval x) d)
  (hk:Bm d H K):∃ v w',xj ((execOp a.eval o).run P w) v w'∧ia G c H w K v w':=by
 have key:∀ v,a.eval x=v→(match v with | .pointer (some _)=>True | .func (.func _) _ _=>True | .func (.yield _) _ _=>True|_=>False)→xj ((execOp a.eval o).run P w) v w:=by
  intro v hv hm
  refine .inl ?_
  simp only[execOp,ho,hv]
  split at hm<;>simp_all
 generalize hv:a.eval x=v at h1
 unfold Bm at hk
 split at hk
 ·cases h1 with
  | ptr _ _ _ L e7 kV=>exact⟨_,w,key _ hv trivial,.plain h hk (.ptr _ _ _ L e7 kV)⟩
 ·obtain⟨b,p,e,hF,hc⟩:=vo h1
  subst e
  exact⟨_,w,key _ hv trivial,.plain h hk h1⟩
 ·cases h1 with
  | fn f fs cs df dc e1 e2 e3 e4=>exact⟨_,w,key _ hv trivial,.plain h hk (.fn _ fs cs _ _ e1 e2 e3 e4)⟩
 ·cases h1 with
  | gP _ L e7 kV=>exact⟨_,w,key _ hv trivial,.plain h hk (.gP _ L e7 kV)⟩
 ·exact hk.elim
theorem KF{l:Array Operand}{xs:List D}(h:ig c w (l.toList.map a.eval) xs):∃ vs:List Value,l.map a.eval=vs.toArray∧ig c w vs xs:=
 ⟨_,by cases l;simp,h⟩
theorem sg{o:Oper}{cl:Call}(ho:o.op = .call cl){b:Builtin}(hb:cl.callee = .builtin b):(execOp a.eval o).run P w=(builtin b cl.argTypes o.type (cl.args.map fun | .const _=>true|_=>false) (cl.args.map a.eval)).run P w:=by
 simp only[execOp,ho,resolve,hb,Sem.run_bind,Sem.run_pure,Result.andThen_ok,invoke]
 rfl
theorem Ql(h:fj G c H w)(he:jt c w env a){al:Al}(fZ:kZ H al){o:Oper}{io:gC}(hc:ly P G o=some io)(hk:zt env H al K io) :
  ∃ v w',xj ((execOp a.eval o).run P w) v w'∧ia G c H w K v w':=by
 unfold ly at hc
 cases ho:o.op with
 | move x=>
  simp only[ho,ay,af,aH,av]at hc
  obtain⟨X,hX,rfl⟩:=hc
  exact⟨_,w,.inl (by simp only[execOp,ho];rfl),.plain h hk (gJ h he hX)⟩
 | assign x=>
  simp only[ho,ay,af,aH,av]at hc
  obtain⟨X,hX,rfl⟩:=hc
  exact⟨_,w,.inl (by simp only[execOp,ho];rfl),.plain h hk (gJ h he hX)⟩
 | pick x y z=>
  simp only[ho,ay,af,aH,av]at hc
  obtain⟨X,hX,Y,hY,Z,hZ,rfl⟩:=hc
  obtain⟨b,hb,hp⟩:=acE h (gJ h he hX) (gJ h he hY) (gJ h he hZ) hk
  exact⟨_,w,.inl (by simp[execOp,ho,hb];rfl),hp⟩
 | box e x=>
  simp only[ho,ay,af,aH,av]at hc
  obtain⟨X,hX,rfl⟩:=hc
  obtain⟨r,w',hr,hp⟩:=ace (P:=P) h fZ e (gJ h he hX) hk
  exact⟨r,w',by simp only[execOp,ho];exact iC hr,hp⟩
 | alloc e=>
  simp only[ho,ay,af,aH,av]at hc
  obtain⟨z,hz,rfl⟩:=hc
  obtain⟨r,w',hr,hp⟩:=ab8 (P:=P) h fZ hz hk
  exact⟨r,w',by simp only[execOp,ho];exact iC hr,hp⟩
 | build t ps=>
  simp only[ho,ay,af]at hc
  obtain⟨z,hz,l,hl,hc⟩:=hc
  split at hc
  ·rename_i fs hu
   split at hc
   ·rename_i hf
    simp only[af,aH,av]at hc
    obtain⟨qs,hq,rfl⟩:=hc
    obtain⟨r,hr,hp⟩:=acf h he hz hl hu hf hq hk
    exact⟨r,w,by simp only[execOp,ho];exact iC hr,hp⟩
   ·cases hc
  ·rename_i n e hu
   simp only[af,aH,av]at hc
   obtain⟨sz,hs,rfl⟩:=hc
   obtain⟨r,hr,hp⟩:=acg h he hz hl hu hs hk
   exact⟨r,w,by simp only[execOp,ho];exact iC hr,hp⟩
  ·cases hc
 | buildSlice t n ps=>
  simp only[ho,ay,af]at hc
  obtain⟨td,hu,hc⟩:=hc
  split at hc
  ·rename_i e
   simp only[af]at hc
   obtain⟨z,hz,sz,hs,l,hl,hc⟩:=hc
   split at hc
   ·rename_i il
    cases hc
    obtain⟨r,w',hr,hp⟩:=ach (P:=P) h fZ he hu hz hs hl il.1 il.2.1 il.2.2 hk
    exact⟨r,w',by simp only[execOp,ho];exact iC hr,hp⟩
   ·cases hc
  ·cases hc
 | load t x=>
  simp only[ho,ay,af]at hc
  obtain⟨X,hX,n,hn,b,hb,hc⟩:=hc
  cases b
  ·cases hc
   obtain⟨v,hv,hp⟩:=acw h hb (gJ h he hX) hk
   exact⟨v,w,by simp only[execOp,ho];exact iC hv,hp⟩
  ·cases hc
   obtain⟨v,hv,hp⟩:=acx h hb hn (gJ h he hX) hk
   exact⟨v,w,by simp only[execOp,ho];exact iC hv,hp⟩
 | store t x y=>
  simp only[ho,ay,af]at hc
  obtain⟨X,hX,Y,hY,n,hn,b,hb,hc⟩:=hc
  cases b
  ·simp only[bH,if_false]at hc
   split at hc
   ·rename_i e
    subst e
    cases hc
    obtain⟨w',hv,hp⟩:=acI h hn (gJ h he hX) (gJ h he hY) hk
    exact⟨_,w',by simp only[execOp,ho];exact Hv hv,hp⟩
   ·cases hc
  ·cases hc
   obtain⟨w',hv,hp⟩:=acJ h hn (gJ h he hX) (gJ h he hY) hk
   exact⟨_,w',by simp only[execOp,ho];exact Hv hv,hp⟩
 | nilCheck x=>
  simp only[ho,ay,af,aH,av]at hc
  obtain⟨X,hX,rfl⟩:=hc
  exact acD h ho (gJ h he hX) hk
 | binOp op t x y yt=>
  simp only[ho,ay,af]at hc
  obtain⟨X,hX,Y,hY,hc⟩:=hc
  have r1:=gJ h he hX
  have r2:=gJ h he hY
  split at hc
  ·split at hc
   ·rename_i hb
    cases hc
    obtain⟨v,hv,hp⟩:=P5 (P:=P) h (by unfold Et at hb;split at hb<;>first|assumption|cases hb) false r1 r2 hk x y
    exact⟨v,w,by simp only[execOp,ho];exact iC hv,hp⟩
   ·split at hc
    ·cases hc
     obtain⟨v,hv,hp⟩:=Kt (P:=P) h r1 r2 hk t x y
     exact⟨v,w,by simp only[execOp,ho];exact iC hv,hp⟩
    ·simp only[af,aH,av]at hc
     obtain⟨ls,AD,rfl⟩:=hc
     obtain⟨v,hv,hp⟩:=P6 (P:=P) h AD false r1 r2 hk x y
     exact⟨v,w,by simp only[execOp,ho];exact iC hv,hp⟩
  ·split at hc
   ·rename_i hb
    cases hc
    obtain⟨v,hv,hp⟩:=P5 (P:=P) h (by unfold Et at hb;split at hb<;>first|assumption|cases hb) true r1 r2 hk x y
    exact⟨v,w,by simp only[execOp,ho];exact iC hv,hp⟩
   ·split at hc
    ·cases hc
     obtain⟨v,hv,hp⟩:=Kt (P:=P) h r1 r2 hk t x y
     exact⟨v,w,by simp only[execOp,ho];exact iC hv,hp⟩
    ·simp only[af,aH,av]at hc
     obtain⟨ls,AD,rfl⟩:=hc
     obtain⟨v,hv,hp⟩:=P6 (P:=P) h AD true r1 r2 hk x y
     exact⟨v,w,by simp only[execOp,ho];exact iC hv,hp⟩
  ·cases hc
   obtain⟨v,hv,hp⟩:=Kt (P:=P) h r1 r2 hk t x y
   exact⟨v,w,by simp only[execOp,ho];exact iC hv,hp⟩
 | unOp op t x=>
  simp only[ho,ay,af,aH,av]at hc
  obtain⟨X,hX,rfl⟩:=hc
  obtain⟨v,hv,hp⟩:=acK (P:=P) h (gJ h he hX) hk
  exact⟨v,w,by simp only[execOp,ho];exact iC hv,hp⟩
 | convert s d x=>
  simp only[ho,ay,af]at hc
  obtain⟨X,hX,sd,hs,hc⟩:=hc
  split at hc
  ·rename_i k hd
   cases hc
   obtain⟨v,hv,hp⟩:=ack (P:=P) h hs hd (gJ h he hX) hk
   exact⟨v,w,by simp only[execOp,ho];exact iC hv,hp⟩
  ·rename_i hd
   simp only[af]at hc
   obtain⟨sd2,lQ,hc⟩:=hc
   split at hc
   ·rename_i e
    simp only[af]at hc
    obtain⟨ed,I5,hc⟩:=hc
    split at hc
    ·cases hc
     obtain⟨v,hv,hp⟩:=acd (P:=P) h lQ I5 hd (gJ h he hX) hk
     exact⟨v,w,by simp only[execOp,ho];exact iC hv,hp⟩
    ·cases hc
   ·cases hc
  ·cases hc
 | makeFunc f first cap=>
  simp only[ho,ay,af,aH,av]at hc
  obtain⟨X,hX,Y,hY,rfl⟩:=hc
  exact⟨_,w,.inl (by simp[execOp,ho,Instr.makeFunc]),acz h he hX hY hk⟩
 | makeMap t r=>
  cases r with
  | some r=>simp[ho]at hc
  | none=>
   simp only[ho,ay,af]at hc
   obtain⟨td,hu,hc⟩:=hc
   split at hc
   ·simp only[af,aH,av]at hc
    obtain⟨kk,jK,rfl⟩:=hc
    obtain⟨v,w',hv,hp⟩:=acA (P:=P) h fZ t kk hk
    exact⟨v,w',by simp only[execOp,ho];exact iC hv,hp⟩
   ·cases hc
 | lookup t x i ok=>
  simp only[ho,ay,af]at hc
  obtain⟨td,hu,hc⟩:=hc
  split at hc
  ·simp only[af,aH,av]at hc
   obtain⟨z,hz,kk,jK,X,hX,Y,hY,rfl⟩:=hc
   obtain⟨v,hv,hp⟩:=acy (P:=P) h hu jK hz ok (gJ h he hX) (gJ h he hY) hk
   exact⟨v,w,by simp only[execOp,ho];exact iC hv,hp⟩
  ·cases hc
 | mapUpdate t m k x=>
  simp only[ho,ay,af]at hc
  obtain⟨td,hu,hc⟩:=hc
  split at hc
  ·simp only[af,aH,av]at hc
   obtain⟨kk,jK,X,hX,Y,hY,Z,hZ,rfl⟩:=hc
   obtain⟨w',hv,hp⟩:=P7 (P:=P) h hu jK (gJ h he hX) (gJ h he hY) (gJ h he hZ) hk
   exact⟨_,w',by simp only[execOp,ho];exact Hv hv,hp⟩
  ·cases hc
 | insert t m k x=>
  simp only[ho,ay,af]at hc
  obtain⟨td,hu,hc⟩:=hc
  split at hc
  ·simp only[af,aH,av]at hc
   obtain⟨kk,jK,X,hX,Y,hY,Z,hZ,rfl⟩:=hc
   obtain⟨w',hv,hp⟩:=P7 (P:=P) h hu jK (gJ h he hX) (gJ h he hY) (gJ h he hZ) hk
   exact⟨_,w',by simp only[execOp,ho];exact Hv hv,hp⟩
  ·cases hc
 | makeSlice t l m=>
  simp only[ho,ay,af]at hc
  obtain⟨td,hu,hc⟩:=hc
  split at hc
  ·simp only[af]at hc
   obtain⟨z,hz,i,hi,hc⟩:=hc
   split at hc
   ·rename_i il
    simp only[af,aH,av]at hc
    obtain⟨X,hX,Y,hY,rfl⟩:=hc
    obtain⟨v,w',hv,hp⟩:=acB (P:=P) h fZ hu hi hz il.1 il.2 (gJ h he hX) (gJ h he hY) hk
    exact⟨_,w',by simp only[execOp,ho];exact iC hv,hp⟩
   ·cases hc
  ·cases hc
 | slice t x lo hi mx=>
  cases mx with
  | some r=>simp[ho]at hc
  | none=>
   simp only[ho,ay,af]at hc
   obtain⟨X,hX,L,hL,M,hM,hc⟩:=hc
   have r1:=gJ h he hX
   split at hc
   ·rename_i e hu
    simp only[af,aH,av]at hc
    obtain⟨n,hn,rfl⟩:=hc
    obtain⟨v,hv,hp⟩:=acG (P:=P) h he hu hn hL hM r1 hk
    exact⟨v,w,by simp only[execOp,ho];exact iC hv,hp⟩
   ·rename_i hu
    cases hc
    have hs:∃ s,ev env X = .val (.string s):=by
     simp only[zt]at hk
     unfold yL at hk
     split at hk
     ·rename_i s e;exact⟨s,e⟩
     ·exact hk.elim
    obtain⟨s,hs⟩:=hs
    simp only[zt]at hk
    rw[hs]at hk r1
    have Wl:a.eval x = .string s:=by
     generalize a.eval x=u at r1
     cases r1;rfl
    obtain⟨v,hv,hp⟩:=acH (P:=P) h he hu hL hM hk
    exact⟨v,w,by simp only[execOp,ho,Wl];exact iC hv,hp⟩
   ·cases hc
 | fieldAddr t x f=>
  simp only[ho,ay,af]at hc
  obtain⟨X,hX,td,hu,hc⟩:=hc
  split at hc
  ·simp only[af]at hc
   obtain⟨fd,hf,n,hn,hc⟩:=hc
   split at hc
   ·rename_i jr
    cases hc
    obtain⟨v,hv,hp⟩:=acq (P:=P) h hu hf hn jr (gJ h he hX) hk
    exact⟨v,w,by simp only[execOp,ho];exact iC hv,hp⟩
   ·cases hc
  ·cases hc
 | field t x f=>
  simp only[ho,ay,af]at hc
  obtain⟨X,hX,td,hu,hc⟩:=hc
  split at hc
  ·simp only[af,aH,av]at hc
   obtain⟨fd,hf,n,hn,b,hb,rfl⟩:=hc
   obtain⟨v,hv,hp⟩:=acp (P:=P) h hu hf hb hn (gJ h he hX) hk
   exact⟨v,w,by simp only[execOp,ho];exact iC hv,hp⟩
  ·cases hc
 | indexAddr t x i=>
  simp only[ho,ay,af]at hc
  obtain⟨X,hX,Y,hY,hc⟩:=hc
  split at hc
  ·rename_i e hu
   simp only[af]at hc
   obtain⟨n,hn,hc⟩:=hc
   split at hc
   ·rename_i jr
    cases hc
    obtain⟨v,hv,hp⟩:=acs (P:=P) h hu hn jr (gJ h he hX) (gJ h he hY) hk
    exact⟨v,w,by simp only[execOp,ho];exact iC hv,hp⟩
   ·cases hc
  ·rename_i m e hu
   simp only[af,aH,av]at hc
   obtain⟨n,hn,rfl⟩:=hc
   obtain⟨v,hv,hp⟩:=acu (P:=P) h hu hn (gJ h he hX) (gJ h he hY) hk
   exact⟨v,w,by simp only[execOp,ho];exact iC hv,hp⟩
  ·cases hc
 | index t x i=>
  simp only[ho,ay,af]at hc
  obtain⟨X,hX,Y,hY,hc⟩:=hc
  split at hc
  ·rename_i m e hu
   simp only[af,aH,av]at hc
   obtain⟨n,hn,b,hb,rfl⟩:=hc
   obtain⟨v,hv,hp⟩:=acr (P:=P) h hu hn hb (gJ h he hX) (gJ h he hY) hk
   exact⟨v,w,by simp only[execOp,ho];exact iC hv,hp⟩
  ·rename_i hu
   cases hc
   obtain⟨v,hv,hp⟩:=acv (P:=P) h hu (gJ h he hX) (gJ h he hY) hk
   exact⟨v,w,by simp only[execOp,ho];exact iC hv,hp⟩
  ·cases hc
 | extract x i=>
  simp only[ho,ay,af,aH,av]at hc
  obtain⟨X,hX,rfl⟩:=hc
  obtain⟨v,hv,hp⟩:=aco (P:=P) h (gJ h he hX) hk
  exact⟨v,w,by simp only[execOp,ho];exact iC hv,hp⟩
 | call cl=>
  simp only[ho,ay,af]at hc
  obtain⟨args,pD,hc⟩:=hc
  have gX:=vj h he cl.args.toList pD
  split at hc
  ·split at hc
   ·cases hc;split at hk<;>exact(show False from hk).elim
   ·cases hc
  ·simp only[af,aH,av]at hc
   obtain⟨X,hX,rfl⟩:=hc
   exact(show False from hk).elim
  ·rename_i iz
   split at hc
   ·rename_i t u x y lZ
    have pE:cl.argTypes = #[t,u]:=by rw[← bI (xs:=cl.argTypes),lZ]
    obtain⟨vs,jb,gX⟩:=KF gX
    simp only[List.map_cons,List.map_nil]at gX
    cases gX with|cons r1 gX=>cases gX with|cons r2 gX=>cases gX with|nil=>
    simp only[af]at hc
    obtain⟨td,hu,hc⟩:=hc
    split at hc
    ·simp only[af]at hc
     obtain⟨i,hi,z,hz,ud,OS,hc⟩:=hc
     split at hc
     ·split at hc
      ·rename_i il
       cases hc
       obtain⟨v,w',hv,hp⟩:=ab9 (P:=P) (ty:=o.type) h fZ hu ⟨_,OS⟩ hi hz il.1 il.2 r1 r2 hk
       exact⟨v,w',by rw[sg ho iz,jb,pE];exact iC hv,hp⟩
      ·cases hc
     ·cases hc
    ·cases hc
   ·cases hc
  ·rename_i iz
   split at hc
   ·rename_i t u x y lZ
    have pE:cl.argTypes = #[t,u]:=by rw[← bI (xs:=cl.argTypes),lZ]
    obtain⟨vs,jb,gX⟩:=KF gX
    simp only[List.map_cons,List.map_nil]at gX
    cases gX with|cons r1 gX=>cases gX with|cons r2 gX=>cases gX with|nil=>
    simp only[af]at hc
    obtain⟨td,hu,hc⟩:=hc
    split at hc
    ·simp only[af]at hc
     obtain⟨ud,OS,hc⟩:=hc
     split at hc
     ·simp only[af]at hc
      obtain⟨n,hn,hc⟩:=hc
      split at hc
      ·rename_i jr
       cases hc
       obtain⟨v,w',hv,hp⟩:=acm (P:=P) (u:=u) (ty:=o.type) h hu hn jr r1 r2 hk
       exact⟨v,w',by rw[sg ho iz,jb,pE];exact iC hv,hp⟩
      ·cases hc
     ·cases hc
    ·cases hc
   ·cases hc
  ·rename_i iz
   split at hc
   ·rename_i t x lZ
    have pE:cl.argTypes = #[t]:=by rw[← bI (xs:=cl.argTypes),lZ]
    obtain⟨vs,jb,gX⟩:=KF gX
    simp only[List.map_cons,List.map_nil]at gX
    cases gX with|cons r1 gX=>cases gX with|nil=>
    split at hc
    ·rename_i e hu
     cases hc
     obtain⟨v,hv,hp⟩:=Ku (P:=P) (ty:=o.type) (k:=.slice) h hu ⟨e,rfl⟩ r1 hk
     exact⟨v,w,by rw[sg ho iz,jb,pE];exact iC hv,hp⟩
    ·rename_i hu
     cases hc
     obtain⟨v,hv,hp⟩:=Ku (P:=P) (ty:=o.type) (k:=.string) h hu rfl r1 hk
     exact⟨v,w,by rw[sg ho iz,jb,pE];exact iC hv,hp⟩
    ·rename_i k e hu
     cases hc
     obtain⟨v,hv,hp⟩:=Ku (P:=P) (ty:=o.type) (k:=.map) h hu ⟨k,e,rfl⟩ r1 hk
     exact⟨v,w,by rw[sg ho iz,jb,pE];exact iC hv,hp⟩
    ·cases hc
   ·cases hc
  ·rename_i iz
   cases hc
   obtain⟨v,hv,hp⟩:=P8 (P:=P) h he pD true cl.argTypes o.type hk
   exact⟨v,w,by rw[sg ho iz];exact iC (by simpa using hv),hp⟩
  ·rename_i iz
   cases hc
   obtain⟨v,hv,hp⟩:=P8 (P:=P) h he pD false cl.argTypes o.type hk
   exact⟨v,w,by rw[sg ho iz];exact iC (by simpa using hv),hp⟩
  ·cases hc
 | _=>simp[ho]at hc
