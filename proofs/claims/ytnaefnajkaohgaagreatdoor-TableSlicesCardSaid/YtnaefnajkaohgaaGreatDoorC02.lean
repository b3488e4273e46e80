/- Part 2 of the proof of skewer.skewerlaw15.TableSlices. -/
import Derived.Test.YtnaefnajkaohgaaGreatDoorC01
set_option linter.all false
namespace Go.AL
open Go
section
variable{P:Program}{G:GT}{c:Ctx}{H:Heap}{w:World}{K:Kont}{env:EnvF}{a:Act}
theorem ok_idxArr(h:HOK G c H w){t e:TypeId}{sz n:Nat}(hu:P.underlying t=some (.array n e))(hs:sizeT P e=some sz){x i:D}{u v:Value}(h1:Rep c w u x)(h2:Rep c w v i)(hk:idxArrK sz n x i H K) :
  ∃ r,(Instr.indexAt t u v).run P w = .ok r w∧Post G c H w K r w:=by
 have hrun:∀ (ad:Addr) (k:IntKind) (m:Int),0≤m∧m<n→(Instr.indexAt t (.pointer (some ad)) (.int k m)).run P w = .ok (.pointer (some (ad.add (m.toNat*sz)))) w:=fun ad k m hm=>by
  simp only[Instr.indexAt,Sem.run_bind,asIntOf,Sem.run_pure,Result.andThen_ok,run_underlying hu,run_sizeOf' hs,Sem.run_ite,Instr.sureAddr]
  rw[if_pos hm]
 unfold idxArrK at hk
 split at hk
 ·rename_i v0 g0 o k m
  obtain⟨hm,hk⟩:=hk
  cases h2
  cases h1 with
  | ptr _ _ _ L hι hv=>
   refine⟨_,hrun _ k m hm,.plain h hk ?_⟩
   rw[Addr.add_lit,Nat.add_assoc]
   exact .ptr _ _ _ L hι hv
 ·rename_i cs k m
  obtain⟨hm,hk⟩:=hk
  cases h2
  obtain⟨b,p,rfl,hF,hc⟩:=cellsAt_fptr h1
  refine⟨_,hrun _ k m hm,.plain h hk ?_⟩
  rw[Addr.add_lit]
  exact fptr_of_cells hF (hc.drop _)
 ·exact hk.elim
theorem ok_idx(h:HOK G c H w){t e:TypeId}{sz n:Nat}{b:Bool}(hu:P.underlying t=some (.array n e))(hs:sizeT P e=some sz)(ha:aggT P e=some b){x i:D}{u v:Value}(h1:Rep c w u x)(h2:Rep c w v i)(hk:idxK sz n b x i H K) :
  ∃ r,(Instr.index t u v).run P w = .ok r w∧Post G c H w K r w:=by
 unfold idxK at hk
 split at hk
 ·rename_i cs k m
  obtain⟨hm,hk⟩:=hk
  cases h2
  cases h1 with
  | agg vs _ hl h1 h2=>
   obtain⟨r,hr,hp⟩:=ok_part (off:=m.toNat*sz) h ha hs ⟨hl,h1,h2⟩ hk
   refine⟨r,?_,hp⟩
   simp only[Instr.index,Sem.run_bind,asIntOf,Sem.run_pure,Result.andThen_ok,run_underlying hu,Sem.run_ite]
   rw[if_pos hm]
   simp[run_sizeOf' hs,hr]
 ·exact hk.elim
theorem ok_idxStr(h:HOK G c H w){t:TypeId}(hu:P.underlying t=some .string){x i:D}{u v:Value}(h1:Rep c w u x)(h2:Rep c w v i)(hk:idxStrK x i H K) :
  ∃ r,(Instr.index t u v).run P w = .ok r w∧Post G c H w K r w:=by
 unfold idxStrK at hk
 split at hk
 ·rename_i s k m
  obtain⟨hm,hk⟩:=hk
  cases h1
  cases h2
  have hlt:m.toNat<s.size:=by omega
  have hl:s.data.toList.getD m.toNat 0=s[m.toNat]:=by
   have h':m.toNat<s.data.size:=hlt
   show(s.data.toList[m.toNat]?).getD 0=s.data[m.toNat]
   rw[Array.getElem?_toList,Array.getElem?_eq_getElem h']
   rfl
  rw[hl]at hk
  refine⟨_,?_,.val h hk⟩
  simp only[Instr.index,Sem.run_bind,asIntOf,Sem.run_pure,Result.andThen_ok,run_underlying hu]
  rw[if_pos hm.1]
  simp[hlt]
 ·exact hk.elim
theorem ok_ext(h:HOK G c H w){x:D}{i:Nat}{u:Value}(h1:Rep c w u x)(hk:extK x i H K):∃ r,(Instr.extract u i).run P w = .ok r w∧Post G c H w K r w:=by
 unfold extK at hk
 split at hk
 ·split at hk
  ·rename_i ds d hd
   cases h1 with
   | tup vs _ hl h1=>
    have hi:i<vs.length:=by rw[hl];exact(List.getElem?_eq_some_iff.1 hd).1
    refine⟨vs[i],?_,.plain h hk (h1 i _ d (by simp[hi]) hd)⟩
    simp[Instr.extract,hi]
  ·exact hk.elim
 ·exact hk.elim
theorem ok_mkfn(h:HOK G c H w)(he:RepEnv c w env a){f:Fn}{first cap:Array Operand}{df dc:List X}(h1:cXs G first.toList=some df)(h2:cXs G cap.toList=some dc)
  (hk:K (.fn f (df.map (ev env)) (dc.map (ev env))) H):Post G c H w K (.func f (first.map a.eval) (cap.map a.eval)) w:=by
 have r1:=cXs_ok h he first.toList h1
 have r2:=cXs_ok h he cap.toList h2
 refine .plain h hk ?_
 have:=Rep.fn (c:=c) (w:=w) f (first.toList.map a.eval) (cap.toList.map a.eval) (df.map (ev env)) (dc.map (ev env)) r1.length r2.length r1.get r2.get
 have e:∀ l:Array Operand,(l.toList.map a.eval).toArray=l.map a.eval:=fun l=>by cases l;simp
 rwa [e,e]at this
theorem ok_mkmap(h:HOK G c H w){al:Al}(hal:AlOK H al)(t:TypeId)(kk:KK)(hk:K (.omap al.1) (al.2 (.map kk []))):∃ r w',(Instr.makeMap t none).run P w = .ok r w'∧Post G c H w K r w':=by
 have hgr:=Grew.alloc w (.map #[] 0)
 have hL:(⟨w.heap.size,0,0,false⟩:Loc).virt=false→w.heap.size≤(⟨w.heap.size,0,0,false⟩:Loc).b∧(⟨w.heap.size,0,0,false⟩:Loc).b<(w.alloc (.map #[] 0)).heap.size:=fun _=>⟨Nat.le_refl _,by simp⟩
 have ht:=(hal (.map kk [])).takes
 have hs:=takes_step h ht hgr ⟨w.heap.size,0,0,false⟩ hL
 refine⟨.map (some w.heap.size),w.alloc (.map #[] 0),by simp[Instr.makeMap],_,_,_,hk,takes_ok h ht hgr _ hL rfl ?_,?_,hs⟩
 ·simp only[ObOK]
  exact⟨trivial,by simp,#[],0,heap_alloc_new _ _,⟨rfl,by simp,by simp⟩⟩
 ·exact .omap (c:=c.set al.1 0 ⟨w.heap.size,0,0,false⟩) al.1 ⟨w.heap.size,0,0,false⟩ (Ctx.set_same _ _ _ _) rfl
theorem ok_mksl(h:HOK G c H w){al:Al}(hal:AlOK H al){t e:TypeId}{i:TypeInfo}{z:List D}(hu:P.underlying t=some (.slice e))(hi:P.info? e=some i)(hz:zeroT P e=some z)(hzl:z.length=i.size)(hpos:0<i.size)
  {l m:D} {u v:Value} (h1:Rep c w u l) (h2:Rep c w v m) (hk:mkslK e i.size i.bytes z l m al K):∃ r w',(Instr.makeSlice t u v).run P w = .ok r w'∧Post G c H w K r w':=by
 unfold mkslK at hk
 split at hk
 ·rename_i k n k' q
  obtain⟨⟨hn0,hnq,hq,hb⟩,hk⟩:=hk
  cases h1
  cases h2
  obtain⟨zv,hzv,_,hzc⟩:=run_zeroValue hz w
  have hzsz:zv.cells.size=i.size:=by have:=(hzc c w).len;simp at this;omega
  have wn:IntKind.i64.wrap n=n:=wrap_i64 (by unfold inI64;omega)
  have wq:IntKind.i64.wrap q=q:=wrap_i64 (by unfold inI64;omega)
  have hcells:Cells c w ((Array.range (q.toNat*i.size)).map (fun j=>zv.cells[j % zv.cells.size]!)).toList (List.replicate q.toNat z).flatten:=by
   rw[← hzsz,range_mod zv.cells q.toNat (by omega)]
   exact flatten_replicate_cells _ _ hzc _
  obtain⟨L,e1,e2,e3,e4,e5,e6⟩:=new_row h w (Grew.refl w) e _ _ ((Array.range (q.toNat*i.size)).map (fun j=>zv.cells[j % zv.cells.size]!)).size ((Array.range (q.toNat*i.size)).map (fun j=>zv.cells[j % zv.cells.size]!)) (hal _).takes hcells (by rw[← Array.length_toList,List.take_length]) (Nat.le_refl _)
  refine⟨.slice (some ⟨w.heap.size,0,none⟩) n.toNat q.toNat,w.alloc (.cells ((Array.range (q.toNat*i.size)).map (fun j=>zv.cells[j % zv.cells.size]!)) e),?_,?_⟩
  ·have c1:¬ ((i.bytes:Int)*q>2 ^ 48):=by omega
   have c2:¬ q<0:=by omega
   have c3:¬ n<0:=by omega
   have c4:¬ n>q:=by omega
   simp only[Instr.makeSlice,Sem.run_bind,run_underlying hu,Result.andThen_ok,asInt,asIntOf,Sem.run_pure,run_typeInfo hi,wn,wq,Sem.run_ite]
   rw[if_neg (by simp[c1,c2,c3,c4];omega)]
   by_cases h0:q.toNat*i.size=0
   ·have hq0:q.toNat=0:=by rcases Nat.mul_eq_zero.1 h0 with h|h<;>omega
    have er:Array.range 0=(#[]:Array Nat):=rfl
    simp[sizeOf,run_typeInfo hi,hq0,newRow,er]
   ·simp[sizeOf,run_typeInfo hi,h0,hzv,newRow]
  ·have hp:=osl_new (c:=c) (w:=w.alloc (.cells ((Array.range (q.toNat*i.size)).map (fun j=>zv.cells[j % zv.cells.size]!)) e)) e1 e3 al.1 0 i.size n.toNat q.toNat (by rw[e4];simp) (by omega) (by unfold maxLen;omega)
   rw[e2]at hp
   exact⟨_,_,_,hk,e5,hp,e6⟩
 ·exact hk.elim
end
end Go.AL
namespace Go.AL
open Go
section
variable{P:Program}{G:GT}{c:Ctx}{H:Heap}{w:World}{K:Kont}{env:EnvF}{a:Act}
theorem flatten_get{α:Type}(sz:Nat)(hpos:0<sz):∀ (ls:List (List α)),(∀ l∈ls,l.length=sz)→∀ j:Nat,ls.flatten[j]? = (ls[j / sz]?).bind (·[j % sz]?)
 | [],_,j=>by simp
 | l::ls,h,j=>by
  have hl:l.length=sz:=h l (by simp)
  rw[List.flatten_cons]
  by_cases hj:j<sz
  ·rw[List.getElem?_append_left (by omega),Nat.div_eq_of_lt hj,Nat.mod_eq_of_lt hj]
   simp
  ·rw[List.getElem?_append_right (by omega),hl,flatten_get sz hpos ls (fun l hl=>h l (by simp[hl])),Nat.div_eq_sub_div (a:=j) (b:=sz) hpos (by omega),Nat.mod_eq_sub_mod (a:=j) (b:=sz) (by omega)]
   simp
theorem flatten_len{α:Type}(sz:Nat):∀ (ls:List (List α)),(∀ l∈ls,l.length=sz)→ls.flatten.length=ls.length*sz
 | [],_=>by simp
 | l::ls,h=>by
  rw[List.flatten_cons,List.length_append,flatten_len sz ls (fun l hl=>h l (by simp[hl])),h l (by simp),List.length_cons,Nat.add_mul]
  omega
theorem sliceCells_ok(h:HOK G c H w){sz:Nat}(hpos:0<sz){d:D}{u:Value}(hr:Rep c w u d){ys:List D}{n:Nat}(hy:sliceCells sz H d=some (ys,n)) :
  ∃ yb yc vs,u = .slice yb n yc∧Cells c w vs ys∧ys.length=n*sz∧n≤yc∧(yb=none→n=0)∧(∀ ad,yb=some ad→∀ (j:Nat) (v:Value),vs[j]? = some v→w.cell? (ad.add j)=some v):=by
 unfold sliceCells at hy
 split at hy
 ·rename_i sz' es
  split at hy
  ·rename_i e
   subst e
   cases hy
   cases hr with
   | sl ad len cap _ _ g hlen hcap hmax hsz hnil hc hr=>
    have hlf:=flatten_len sz' es hsz
    have hget:∀ (j:Nat) (d:D),es.flatten[j]? = some d→∃ e,es[j / sz']? = some e∧e[j % sz']? = some d:=fun j d hd=>by
     rw[flatten_get sz' hpos es hsz]at hd
     cases he:es[j / sz']? with
     | none=>simp[he]at hd
     | some e=>exact⟨e,rfl,by simpa[he]using hd⟩
    refine⟨ad,cap,(List.range es.flatten.length).map fun j=>g (j / sz') (j % sz'),by rw[hlen],⟨by simp,fun v hv=>?_,fun i v d hv hd=>?_⟩,hlf,by omega,fun e=>by have:=hnil e;omega,fun b hb j v hv=>?_⟩
    ·simp only[List.mem_map,List.mem_range]at hv
     obtain⟨j,hj,rfl⟩:=hv
     obtain⟨e,he1,he2⟩:=hget j _ (by rw[List.getElem?_eq_getElem hj])
     obtain⟨_,_,_,_,_,h1⟩:=hc _ e _ _ he1 he2
     exact h1
    ·obtain⟨e,he1,he2⟩:=hget i d hd
     simp only[List.getElem?_map,List.getElem?_range (List.getElem?_eq_some_iff.1 hd).1,Option.map_some,Option.some.injEq]at hv
     subst hv
     exact hr _ e _ d he1 he2
    ·have hj:j<es.flatten.length:=by have:=(List.getElem?_eq_some_iff.1 hv).1;simpa using this
     simp only[List.getElem?_map,List.getElem?_range hj,Option.map_some,Option.some.injEq]at hv
     subst hv
     obtain⟨e,he1,he2⟩:=hget j _ (by rw[List.getElem?_eq_getElem hj])
     obtain⟨b',o,hab,_,h2,_⟩:=hc _ e _ _ he1 he2
     rw[hb]at hab
     cases hab
     rw[Addr.add_lit]
     have h3:=h2
     rw[Nat.div_add_mod' j sz']at h3
     exact h3
  ·cases hy
 ·cases hy
  cases hr with
  | emp=>exact⟨none,0,[],rfl,Cells.nil,by simp,Nat.le_refl _,fun _=>rfl,fun _ _ j v hv=>by simp at hv⟩
 ·rename_i v0 g0 sz' off len
  split at hy
  ·rename_i t cs hrow
   split at hy
   ·rename_i hcond
    obtain⟨rfl,hfit⟩:=hcond
    cases hy
    have hv:=rowAt_some hrow
    dsimp only at hv
    cases hr with
    | osl _ _ _ _ _ cap L hι hvirt hcap hmax htop=>
     obtain⟨arr,h1,h2,h3,h4⟩:=row_at h hv hι hvirt
     refine⟨_,cap,_,rfl,((h4.drop (off*sz')).take (n*sz')),?_,hcap,(fun e=>nomatch e),fun ad hb j v hv=>?_⟩
     ·simp only[List.length_take,List.length_drop]
      rw[Nat.add_mul]at hfit
      omega
     ·cases hb
      rw[Addr.add_lit]
      rw[List.getElem?_take]at hv
      split at hv
      ·rw[List.getElem?_drop,List.getElem?_take]at hv
       split at hv
       ·rw[List.getElem?_drop]at hv
        simp[World.cell?,h1]
        rw[Nat.add_assoc]
        simpa using hv
       ·cases hv
      ·cases hv
    | oslz _ _ _ _ L hι ad=>
     refine⟨ad,0,[],rfl,?_,by simp,Nat.le_refl _,fun _=>rfl,fun _ _ j v hv=>by simp at hv⟩
     simp only[Nat.zero_mul,List.take_zero]
     exact Cells.nil
   ·cases hy
  ·cases hy
 ·cases hy
theorem bytesOf_ok:∀ {vs:List Value} {ys:List D} {ns:List Int},vs.length=ys.length→(∀ (i:Nat) (v:Value) (d:D),vs[i]? = some v→ys[i]? = some d→Rep c w v d)→bytesOf ys=some ns→vs=ns.map (Value.int .u8)
 | [],[],ns,_,_,h=>by cases h;rfl
 | v::vs,y::ys,ns,hl,hr,h=>by
  unfold bytesOf at h
  split at h
  ·rename_i heq;cases heq
  ·rename_i n r heq
   cases heq
   split at h
   ·rename_i l hl'
    cases h
    have h0:=hr 0 v _ rfl rfl
    cases h0
    have e:=bytesOf_ok (vs:=vs) (by simpa using hl) (fun i v d hv hd=>hr (i+1) v d (by simpa using hv) (by simpa using hd)) hl'
    rw[e]
    rfl
   ·cases h
  ·cases h
theorem ok_b2s(h:HOK G c H w){s d e:TypeId}(hs:P.underlying s=some (.slice e))(he:P.underlying e=some (.int .u8))(hd:P.underlying d=some .string){x:D}{u:Value}(h1:Rep c w u x)(hk:b2sK x H K) :
  ∃ r,(convert s d u).run P w = .ok r w∧Post G c H w K r w:=by
 unfold b2sK at hk
 split at hk
 ·rename_i ys n hys
  obtain⟨yb,yc,vs,huy,hvs,hyl,hyc,hynil,hyat⟩:=sliceCells_ok h (by omega) h1 hys
  subst huy
  split at hk
  ·rename_i ns hns
   have hv:=bytesOf_ok hvs.len hvs.rep hns
   refine⟨_,?_,.val h hk⟩
   rw[run_convert_bytes_string w s d e yb n yc hs he hd]
   cases yb with
   | none=>
    have hn:=hynil rfl
    subst hn
    have:ns = []:=by
     have:vs = []:=List.eq_nil_of_length_eq_zero (by rw[hvs.len,hyl])
     rw[this]at hv
     cases ns with
     | nil=>rfl
     | cons=>cases hv
    subst this
    simp[Conv.bytesToString]
   | some ad=>
    refine run_bytesToString w ad n yc ns ?_
    have hl:vs.length=n:=by rw[hvs.len,hyl];simp
    have:=run_loadCells_list (P:=P) w ad vs (hyat ad rfl)
    rw[hl]at this
    rw[this,hv]
  ·exact hk.elim
 ·exact hk.elim
theorem boundOf_ok(h:HOK G c H w)(he:RepEnv c w env a){x:Option Operand}{X:Option X}(hx:cXo G x=some X){d:Int}{n:Int}(hb:boundOf env X d=some n) :
  (x=none∧n=d)∨∃ k o,x=some o∧a.eval o = .int k n:=by
 cases x with
 | none=>cases hx;simp[boundOf]at hb;exact .inl ⟨rfl,hb.symm⟩
 | some o=>
  simp only[cXo,Option.map_eq_some_iff]at hx
  obtain⟨X0,hX,rfl⟩:=hx
  have:=cX_ok h he hX
  simp only[boundOf]at hb
  split at hb
  ·rename_i k m hev
   cases hb
   rw[hev]at this
   generalize hv:a.eval o=v at this
   cases this
   exact .inr ⟨k,o,rfl,hv⟩
  ·cases hb
theorem run_bounds(isSlice:Bool)(len cap:Nat)(lo hi:Option Value)(l h:Int)(hlo:(lo=none∧l=0)∨∃ k,lo=some (.int k l))(hhi:(hi=none∧h=len)∨∃ k,hi=some (.int k h))
  (h0:0≤l) (h1:l≤h) (h2:h≤cap):(Instr.sliceBounds isSlice len cap lo hi none).run P w = .ok (l.toNat,h.toNat,cap) w:=by
 have eh:(h.toNat:Int)=h:=Int.toNat_of_nonneg (by omega)
 rcases hlo with⟨rfl,rfl⟩|⟨k,rfl⟩<;>rcases hhi with⟨rfl,rfl⟩|⟨k',rfl⟩
 ·simp[Instr.sliceBounds]
 ·simp[Instr.sliceBounds,run_sliceBound w k' h cap _ (by omega) h2]
 ·simp[Instr.sliceBounds,run_sliceBound w k l len _ h0 h1]
 ·simp[Instr.sliceBounds,run_sliceBound w k' h cap _ (by omega) h2,run_sliceBound w k l h.toNat _ h0 (by omega)]
theorem bounds_of(h:HOK G c H w)(he:RepEnv c w env a){x:Option Operand}{X:Option X}(hx:cXo G x=some X){d:Int}{n:Int}(hb:boundOf env X d=some n) :
  (x.map a.eval=none∧n=d)∨∃ k,x.map a.eval=some (.int k n):=by
 rcases boundOf_ok h he hx hb with⟨rfl,rfl⟩|⟨k,o,rfl,hv⟩
 ·exact .inl ⟨rfl,rfl⟩
 ·exact .inr ⟨k,by simp[hv]⟩
theorem ok_slc_slice(h:HOK G c H w)(he:RepEnv c w env a){t e:TypeId}{sz:Nat}(hu:P.underlying t=some (.slice e))(hs:sizeT P e=some sz){lo hi:Option Operand}{L M:Option X}(hl:cXo G lo=some L)(hm:cXo G hi=some M)
  {x:D} {u:Value} (h1:Rep c w u x) (hk:slcK env sz x L M H K):∃ r,(Instr.sliceAt t u (lo.map a.eval) (hi.map a.eval) none).run P w = .ok r w∧Post G c H w K r w:=by
 have hrun:∀ (b:Option Addr) (len cap:Nat) (l m:Int),boundOf env L 0=some l→boundOf env M len=some m→0≤l→l≤m→m≤cap →
   (Instr.sliceAt t (.slice b len cap) (lo.map a.eval) (hi.map a.eval) none).run P w = .ok (.slice (if cap=l.toNat then b else b.map (·.add (l.toNat*sz))) (m.toNat-l.toNat) (cap-l.toNat)) w:=by
  intro b len cap l m hbl hbm h0 hlm hmc
  have hb:=run_bounds (P:=P) (w:=w) true len cap (lo.map a.eval) (hi.map a.eval) l m (bounds_of h he hl hbl) (bounds_of h he hm hbm) h0 hlm hmc
  simp only[Instr.sliceAt,Sem.run_bind,run_underlying hu,Result.andThen_ok,Instr.slice,hb,run_sizeOf' hs,Sem.run_pure]
 unfold slcK at hk
 split at hk
 ·rename_i sz' es
  split at hk
  ·rename_i l m hbl hbm
   obtain⟨rfl,⟨h0,hlm,hme⟩,hk⟩:=hk
   cases h1 with
   | sl ad len cap _ _ g hlen hcap hmax hsz hnil hc hr=>
    refine⟨_,hrun ad len cap l m hbl (by rw[← hlen];exact hbm) h0 hlm (by omega),.plain h hk ?_⟩
    have hget:∀ (i:Nat) (e:List D),((es.drop l.toNat).take (m.toNat-l.toNat))[i]? = some e→es[l.toNat+i]? = some e∧i<m.toNat-l.toNat:=fun i e hi=>by
     rw[List.getElem?_take]at hi
     split at hi
     ·rw[List.getElem?_drop]at hi;exact⟨hi,by assumption⟩
     ·cases hi
    refine .sl _ _ _ sz' _ (fun i j=>g (l.toNat+i) j) (by simp;omega) (by omega) (by omega) (fun e hmem=>hsz e (List.mem_of_mem_drop (List.mem_of_mem_take hmem))) ?_ ?_ ?_
    ·intro hn
     split at hn
     ·omega
     ·cases ad with
      | none=>have:=hnil rfl;omega
      | some ad=>simp at hn
    ·intro i e j d hi hd
     obtain⟨h3,h4⟩:=hget i e hi
     obtain⟨b,o,hab,hF,hce,h1⟩:=hc _ e j d h3 hd
     refine⟨b,o+l.toNat*sz',?_,hF,?_,h1⟩
     ·rw[if_neg (by omega),hab]
      simp[Addr.add_lit]
     ·rw[← hce,Nat.add_mul]
      congr 2
      omega
    ·intro i e j d hi hd
     exact hr _ e j d (hget i e hi).1 hd
  ·exact hk.elim
 ·rename_i v g0 sz' off len
  split at hk
  ·rename_i l m hbl hbm
   obtain⟨rfl,⟨h0,hlm,hme⟩,hk⟩:=hk
   cases h1 with
   | osl _ _ _ _ _ cap Lc hι hv hcap hmax htop=>
    refine⟨_,hrun _ len cap l m hbl hbm h0 hlm (by omega),.plain h hk ?_⟩
    by_cases hz:cap=l.toNat
    ·rw[if_pos hz,show m.toNat-l.toNat=0 by omega,show cap-l.toNat=0 by omega]
     exact .oslz v g0 sz' (off+l.toNat) Lc hι _
    ·rw[if_neg hz]
     have:=Rep.osl (c:=c) (w:=w) v g0 sz' (off+l.toNat) (m.toNat-l.toNat) (cap-l.toNat) Lc hι hv (by omega) (by omega) (by rw[show off+l.toNat+(cap-l.toNat)=off+cap by omega];exact htop)
     simp only[Option.map_some,Addr.add_lit]
     rw[Nat.add_assoc,← Nat.add_mul]
     exact this
   | oslz _ _ _ _ Lc hι ad=>
    have:l=0:=by omega
    subst this
    have:m=0:=by omega
    subst this
    refine⟨_,hrun ad 0 0 0 0 hbl hbm h0 hlm (by omega),.plain h hk ?_⟩
    simp only[Int.toNat_zero,if_true,Nat.sub_zero,Nat.add_zero]
    exact .oslz v g0 sz' off Lc hι ad
  ·exact hk.elim
 ·split at hk
  ·rename_i l m hbl hbm
   obtain⟨⟨rfl,rfl⟩,hk⟩:=hk
   cases h1 with
   | emp=>
    refine⟨_,hrun none 0 0 0 0 hbl hbm (by omega) (by omega) (by omega),.plain h hk ?_⟩
    simp only[Int.toNat_zero,if_true,Nat.sub_zero]
    exact .emp
  ·exact hk.elim
 ·exact hk.elim
theorem ok_slc_str(h:HOK G c H w)(he:RepEnv c w env a){t:TypeId}(hu:P.underlying t=some .string){lo hi:Option Operand}{L M:Option X}(hl:cXo G lo=some L)(hm:cXo G hi=some M)
  {s:ByteArray} (hk:slcSK env (.val (.string s)) L M H K):∃ r,(Instr.sliceAt t (.string s) (lo.map a.eval) (hi.map a.eval) none).run P w = .ok r w∧Post G c H w K r w:=by
 simp only[slcSK]at hk
 split at hk
 ·rename_i l m hbl hbm
  obtain⟨⟨h0,hlm,hme⟩,hk⟩:=hk
  have hb:=run_bounds (P:=P) (w:=w) false s.size s.size (lo.map a.eval) (hi.map a.eval) l m (bounds_of h he hl hbl) (bounds_of h he hm hbm) h0 hlm hme
  exact⟨.string (s.extract l.toNat m.toNat),by simp[Instr.sliceAt,run_underlying hu,Instr.slice,hb],.val h hk⟩
 ·exact hk.elim
theorem mapAt_some{v:Nat}{x:KK×List (Value×D)}(h:mapAt H v=some x):H[v]? = some (.map x.1 x.2):=by
 unfold mapAt at h
 split at h
 ·cases h;assumption
 ·cases h
theorem ok_len(h:HOK G c H w){t ty:TypeId}{k:LenOf}{d:TypeDesc}(hd:P.underlying t=some d)(hkind:match k with | .slice=>∃ e,d = .slice e | .string=>d = .string | .map=>∃ k e,d = .map k e)
  {x:D} {u:Value} (h1:Rep c w u x) (hk:lenK k x H K):∃ r,(Builtin.len_ #[t] ty #[u]).run P w = .ok r w∧Post G c H w K r w:=by
 unfold lenK at hk
 split at hk
 ·obtain⟨e,rfl⟩:=hkind
  cases h1 with
  | sl ad len cap _ _ g hlen hcap hmax hsz hnil hc hr=>
   refine⟨goInt len,by simp[Builtin.len_,run_underlying hd],.plain h hk ?_⟩
   rw[hlen];exact .val _
 ·obtain⟨e,rfl⟩:=hkind
  cases h1 with
  | emp=>exact⟨goInt 0,by simp[Builtin.len_,run_underlying hd],.plain h hk (.val _)⟩
 ·rename_i v g0 sz off len
  obtain⟨e,rfl⟩:=hkind
  cases h1 with
  | osl _ _ _ _ _ cap L hι hv hcap hmax htop=>exact⟨goInt len,by simp[Builtin.len_,run_underlying hd],.plain h hk (.val _)⟩
  | oslz=>exact⟨goInt 0,by simp[Builtin.len_,run_underlying hd],.plain h hk (.val _)⟩
 ·have hkind:d = .string:=hkind
  subst hkind
  cases h1
  exact⟨_,by simp[Builtin.len_,run_underlying hd]<;>rfl,.plain h hk (.val _)⟩
 ·rename_i v
  obtain⟨kk,e,rfl⟩:=hkind
  split at hk
  ·rename_i kk' es hes
   cases h1 with
   | omap _ L hι hv=>
    have hob:=h.ob v _ (mapAt_some hes)
    simp only[Ob.gen]at hob
    rw[hι]at hob
    simp only[ObOK]at hob
    obtain⟨_,_,arr,clock,hm,hsz,_⟩:=hob
    refine⟨goInt arr.size,by simp[Builtin.len_,run_underlying hd,getObj,Sem.run,hm],.plain h hk ?_⟩
    rw[← hsz];exact .val _
  ·exact hk.elim
 ·exact hk.elim
theorem ok_minmax(h:HOK G c H w)(he:RepEnv c w env a){xs:List X}{ops:Array Operand}(hx:cXs G ops.toList=some xs)(isMax:Bool)(ts:Array TypeId)(ty:TypeId)(hk:minmaxK env isMax xs H K) :
  ∃ r,(if isMax then Builtin.max_ ts ty (ops.map a.eval)else Builtin.min_ ts ty (ops.map a.eval)).run P w = .ok r w∧Post G c H w K r w:=by
 have hr:=cXs_ok h he ops.toList hx
 have key:∀ (xs:List X) (vs:List Value) (l:List Int),intsOf env xs=some l→RepL c w vs (xs.map (ev env))→vs=l.map (Value.int .i64 ·):=by
  intro xs
  induction xs with
  | nil=>intro vs l hl hr;simp[intsOf]at hl;subst hl;cases hr;rfl
  | cons x xs ih=>
   intro vs l hl hr
   simp only[intsOf]at hl
   split at hl
   ·rename_i n l' hev hl'
    cases hl
    simp only[List.map_cons]at hr
    cases hr with
    | cons h1 h2=>
     rw[hev]at h1
     cases h1
     rw[ih _ _ hl' h2]
     rfl
   ·cases hl
 have e:∀ l:Array Operand,(l.toList.map a.eval).toArray=l.map a.eval:=fun l=>by cases l;simp
 unfold minmaxK at hk
 split at hk
 ·rename_i p q hi
  have hv:=key _ _ _ hi hr
  have hv':ops.map a.eval = #[.int .i64 p,.int .i64 q]:=by rw[← e,hv];rfl
  cases isMax
  ·refine⟨.int .i64 (min p q),?_,.val h (by simpa using hk)⟩
   simp only[Bool.false_eq_true,if_false,hv']
   have:(if q<p then q else p)=min p q:=by omega
   simp[Builtin.min_,Builtin.min2,this]
  ·refine⟨.int .i64 (max p q),?_,.val h (by simpa using hk)⟩
   simp only[if_true,hv']
   have:(if q>p then q else p)=max p q:=by omega
   simp[Builtin.max_,Builtin.max2]
   omega
 ·rename_i p q s hi
  have hv:=key _ _ _ hi hr
  have hv':ops.map a.eval = #[.int .i64 p,.int .i64 q,.int .i64 s]:=by rw[← e,hv];rfl
  cases isMax
  ·refine⟨.int .i64 (min (min p q) s),?_,.val h (by simpa using hk)⟩
   simp only[Bool.false_eq_true,if_false,hv']
   simp[Builtin.min_,Builtin.min2]
   omega
  ·refine⟨.int .i64 (max (max p q) s),?_,.val h (by simpa using hk)⟩
   simp only[if_true,hv']
   simp[Builtin.max_,Builtin.max2]
   omega
 ·exact hk.elim
end
end Go.AL
namespace Go.AL
open Go
section
variable{P:Program}{G:GT}{c:Ctx}{H:Heap}{w:World}{K:Kont}{env:EnvF}{a:Act}
theorem move_row{G:GT}{c:Ctx}{H:Heap}{w w':World}(h:HOK G c H w){v g:Nat}{t:TypeId}{cs:List D}(hv:H[v]? = some (.row t g cs)){L:Loc}(hι:c.ι v g=some L)(L':Loc)
  (hg:(w'.os=w.os∧w.drawn≤w'.drawn)∧w'.tape=w.tape∧w'.output=w.output∧w.heap.size≤w'.heap.size) (hkept:∀ b,b<w.heap.size→¬ (L.virt=false∧b=L.b)→w'.heap[b]? = w.heap[b]?)
  (hplace:L'.virt=false→(w.heap.size≤L'.b∨(L.virt=false∧L'.b=L.b))∧L'.b<w'.heap.size) (cs':List D)
  (hob:(∀ u d,Rep c w u d→Rep (c.set v (g+1) L') w' u d)→ObOK (c.set v (g+1) L') w' (some L') (.row t (g+1) cs')) :
  HOK G (c.set v (g+1) L') (H.set v (.row t (g+1) cs')) w'∧Step H.length c H w (c.set v (g+1) L') (H.set v (.row t (g+1) cs')) w':=by
 have hvl:v<H.length:=(List.getElem?_eq_some_iff.1 hv).1
 have hlv:Lies c H v L:=⟨_,hv,rfl,hι⟩
 have ht:Takes H v (.row t (g+1) cs') (H.set v (.row t (g+1) cs')):=⟨set_get hvl,.inr (.inr ⟨_,hv,rfl,Nat.lt_succ_self _⟩),by simp⟩
 have hnotF:∀ b,c.F b→¬ (L.virt=false∧b=L.b):=fun b hF e=>h.nF b ⟨v,L,hlv,e.1,e.2.symm⟩ hF
 have hcase:∀ u l,Lies (c.set v (g+1) L') (H.set v (.row t (g+1) cs')) u l→(u=v∧l=L')∨(u≠v∧Lies c H u l):=fun u l hl=>takes_lies ht hl
 have hOw:∀ b,Owned (c.set v (g+1) L') (H.set v (.row t (g+1) cs')) b→(L'.virt=false∧b=L'.b)∨(Owned c H b∧¬ (L.virt=false∧b=L.b)):=by
  rintro b ⟨u,l,hl,hvt,rfl⟩
  rcases hcase u l hl with⟨_,rfl⟩|⟨hne,h1⟩
  ·exact .inl ⟨hvt,rfl⟩
  ·exact .inr ⟨⟨u,l,h1,hvt,rfl⟩,fun e=>hne (h.inj u v l L h1 hlv hvt e.1 e.2)⟩
 have hs:Step H.length c H w (c.set v (g+1) L') (H.set v (.row t (g+1) cs')) w':={
  os:=hg.1
  tape:=hg.2.1
  output:=hg.2.2.1
  size:=hg.2.2.2
  RT:=rfl
  Fm:=fun _ h=>h
  Fn:=fun _ h=>.inl h
  kept:=fun b hb hn=>hkept b hb fun e=>hn ⟨v,L,hlv,e.1,e.2.symm⟩
  old:=fun u k l _ hu=>takes_ι h ht u k l hu
  own:=fun b hb=>by
   rcases hOw b hb with⟨hvt,rfl⟩|⟨hb,_⟩
   ·rcases(hplace hvt).1 with h1|⟨h1,h2⟩
    ·exact .inl h1
    ·exact .inr ⟨v,L,hlv,h1,h2.symm⟩
   ·exact .inr hb }
 have hr:∀ u d,Rep c w u d→Rep (c.set v (g+1) L') w' u d:=fun u d hd=>hd.step0 h.toHeapOK hs
 refine⟨{
  inj:=fun u u' l l' h1 h2 h5 h6 he=>by
   rcases hcase u l h1 with⟨rfl,rfl⟩|⟨n1,b1⟩<;>rcases hcase u' l' h2 with⟨rfl,rfl⟩|⟨n2,b2⟩
   ·rfl
   ·exfalso
    have hlt:=h.lt l'.b ⟨u',l',b2,h6,rfl⟩
    rcases(hplace h5).1 with h7|⟨h7,h8⟩
    ·omega
    ·exact n2 (h.inj u' u l' L b2 hlv h6 h7 (by omega))
   ·exfalso
    have hlt:=h.lt l.b ⟨u,l,b1,h5,rfl⟩
    rcases(hplace h6).1 with h7|⟨h7,h8⟩
    ·omega
    ·exact n1 (h.inj u u' l L b1 hlv h5 h7 (by omega))
   ·exact h.inj u u' l l' b1 b2 h5 h6 he
  lt:=fun b hb=>by
   rcases hOw b hb with⟨hvt,rfl⟩|⟨hb,_⟩
   ·exact(hplace hvt).2
   ·exact Nat.lt_of_lt_of_le (h.lt b hb) hg.2.2.2
  nF:=fun b hb hF=>by
   rcases hOw b hb with⟨hvt,rfl⟩|⟨hb,_⟩
   ·rcases(hplace hvt).1 with h7|⟨h7,h8⟩
    ·have:=h.Flt _ hF;omega
    ·exact hnotF _ hF ⟨h7,h8⟩
   ·exact h.nF b hb hF
  Flt:=fun b hb=>Nat.lt_of_lt_of_le (h.Flt b hb) hg.2.2.2
  out:=fun u k hu=>by
   simp only[List.length_set]at hu
   rw[Ctx.set_ne _ _ (by rintro⟨rfl,_⟩;omega)];exact h.out u k hu
  fut:=fun u o k ho hk=>by
   rw[set_get hvl]at ho
   split at ho
   ·rename_i e
    cases ho;subst e
    rcases hk with hk|⟨_,hk⟩
    ·cases hk
    ·simp only[Ob.gen]at hk
     rw[Ctx.set_ne _ _ (by rintro⟨_,rfl⟩;omega)];exact h.fut u _ k hv (.inr ⟨rfl,by simp only[Ob.gen];omega⟩)
   ·rename_i e
    rw[Ctx.set_ne _ _ (fun h=>e h.1)]
    exact h.fut u o k ho hk
  ob:=fun u o ho=>by
   rw[set_get hvl]at ho
   split at ho
   ·rename_i e
    cases ho;subst e
    simp only[Ob.gen]
    rw[Ctx.set_same]
    exact hob hr
   ·rename_i hne
    rw[Ctx.set_ne _ _ (fun h=>hne h.1)]
    exact ObOK.keep (c:=c) (c':=c.set v (g+1) L') rfl hr (fun l hl hv' hd=>hkept _ (h.lt _ ⟨u,l,⟨o,ho,hd,hl⟩,hv',rfl⟩) fun e=>hne (h.inj u v l L ⟨o,ho,hd,hl⟩ hlv hv' e.1 e.2)) (h.ob u o ho)
  gl:=fun g' cs hg'=>by
   obtain⟨hcl,hrep⟩:=h.gl g' cs hg'
   exact⟨hcl,hr _ _ hrep⟩
  rt:=h.rt },hs⟩
theorem move_cells{G:GT}{c:Ctx}{H:Heap}{w w':World}(h:HOK G c H w){v g:Nat}{t:TypeId}{cs:List D}(hv:H[v]? = some (.row t g cs)){L:Loc}(hι:c.ι v g=some L)(L':Loc)(hvirt:L'.virt=false)
  (hg:(w'.os=w.os∧w.drawn≤w'.drawn)∧w'.tape=w.tape∧w'.output=w.output∧w.heap.size≤w'.heap.size) (hkept:∀ b,b<w.heap.size→¬ (L.virt=false∧b=L.b)→w'.heap[b]? = w.heap[b]?)
  (hplace:(w.heap.size≤L'.b∨(L.virt=false∧L'.b=L.b))∧L'.b<w'.heap.size)
  (arr:Array Value) (harr:w'.heap[L'.b]? = some (.cells arr t (0,0))) (htop:L'.top=arr.size) (cs':List D) (hlen:L'.base+cs'.length≤L'.top)
  (hc:∀ (i:Nat) (d:D),cs'[i]? = some d→∃ u,arr[L'.base+i]? = some u∧u.oneCell'=true∧Rep c w u d) :
  HOK G (c.set v (g+1) L') (H.set v (.row t (g+1) cs')) w'∧Step H.length c H w (c.set v (g+1) L') (H.set v (.row t (g+1) cs')) w':=by
 refine move_row h hv hι L' hg hkept (fun _=>hplace) cs' fun hr=>?_
 simp only[ObOK,hvirt]
 refine⟨arr,harr,htop,hlen,fun i d hd=>?_⟩
 obtain⟨x,hx1,hx2,hx3⟩:=hc i d hd
 exact⟨x,hx1,hx2,hr _ _ hx3⟩
theorem empty_row{G:GT}{c:Ctx}{H:Heap}{w:World}(h:HOK G c H w){v g:Nat}{t:TypeId}{cs:List D}(hv:H[v]? = some (.row t g cs)){L:Loc}(hι:c.ι v g=some L) :
  HOK G (c.set v (g+1) L) (H.set v (.row t (g+1) [])) w∧Step H.length c H w (c.set v (g+1) L) (H.set v (.row t (g+1) [])) w:=by
 refine move_row h hv hι L ⟨⟨rfl,Nat.le_refl _⟩,rfl,rfl,Nat.le_refl _⟩ (fun _ _ _=>rfl) (fun hvt=>⟨.inr ⟨hvt,rfl⟩,h.lt _ ⟨v,L,⟨_,hv,rfl,hι⟩,hvt,rfl⟩⟩) [] fun _=>?_
 have h0:=h.ob v _ hv
 simp only[Ob.gen]at h0
 rw[hι]at h0
 simp only[ObOK]at h0 ⊢
 split
 ·simp
 ·rename_i hvt
  simp only[hvt]at h0
  obtain⟨arr,h1,h2,h3,_⟩:=h0
  exact⟨arr,h1,h2,by simp;omega,by simp⟩
theorem run_append_new{t u ty e:TypeId}{i:TypeInfo}{zv:Value}(ht:P.underlying t=some (.slice e))(hu:∃ e',P.underlying u=some (.slice e'))(hi:P.info? e=some i)(hz:i.zero=some zv)
  (b:Option Addr) (sLen sCap:Nat) (y:Value) (yb:Option Addr) (n yc:Nat) (hy:y = .slice yb n yc) (olds news:List Value)
  (hold:(Builtin.firstCells i.size sLen (.slice b sLen sCap)).run P w.drew = .ok olds.toArray w.drew) (hnew:(Builtin.firstCells i.size n y).run P w.drew = .ok news.toArray w.drew)
  (hg:sCap<sLen+n) (h63:sLen+n≤9223372036854775807) (hb:(sLen+n)*i.bytes≤140737488355328) :
  (Builtin.append_ #[t,u] ty #[.slice b sLen sCap,y]).run P w = .ok (.slice (some ⟨w.heap.size,0,none⟩) (sLen+n) (grownCap w (sLen+n) sCap e))
    (w.drew.alloc (.cells (olds.toArray++news.toArray++Builtin.zeroCells zv.cells (grownCap w (sLen+n) sCap e-(sLen+n))) e)):=by
 subst hy
 obtain⟨e',hu⟩:=hu
 have hn:¬ (sLen+n≤sCap):=by omega
 have h63':¬ (9223372036854775807<((sLen:Int)+(n:Int))):=by omega
 have h48':¬ (281474976710656<Builtin.nextslicecap (sLen+n) sCap*i.bytes):=by have:=growslice_fits hg hb;omega
 simp[Builtin.append_,run_underlying ht,run_underlying hu,sizeOf,typeInfo,zeroValue,hi,hz,Builtin.lenOf,hn,h63',h48',Question.forced,newRow,grownCap,hold,hnew]
 congr 2
 apply Array.ext'
 simp[List.append_assoc]
theorem run_append_in{t u ty e:TypeId}{i:TypeInfo}(ht:P.underlying t=some (.slice e))(hu:∃ e',P.underlying u=some (.slice e'))(hi:P.info? e=some i)
  (b o:Nat) (sLen sCap:Nat) (y:Value) (yb:Option Addr) (n yc:Nat) (hy:y = .slice yb n yc) (news:List Value) (arr:Array Value) (hg:w.heap[b]? = some (.cells arr e (0,0)))
  (hnew:(Builtin.firstCells i.size n y).run P w = .ok news.toArray w) (h1:∀ v∈news,v.oneCell'=true) (hroom:sLen+n≤sCap) (hfit:o+sLen*i.size+news.length≤arr.size) :
  (Builtin.append_ #[t,u] ty #[.slice (some ⟨b,o,none⟩) sLen sCap,y]).run P w = .ok (.slice (some ⟨b,o,none⟩) (sLen+n) sCap)
    (w.setRow b (arr.toList.take (o+sLen*i.size)++news++arr.toList.drop (o+sLen*i.size+news.length)).toArray):=by
 subst hy
 obtain⟨e',hu⟩:=hu
 have hst:=run_storeCells_at P b (o+sLen*i.size) e news 0 arr w hg (by simpa using hfit) h1
 simp only[Nat.add_zero]at hst
 simp[Builtin.append_,run_underlying ht,run_underlying hu,sizeOf,typeInfo,hi,Builtin.lenOf,hroom,hnew,Addr.add_lit,hst]
theorem firstCells_ok{sz:Nat}{w':World}{yb:Option Addr}{yc n:Nat}{vs:List Value}(hl:vs.length=n*sz)(hnil:yb=none→n=0)(hc:∀ ad,yb=some ad→∀ (j:Nat) (v:Value),vs[j]? = some v→w'.cell? (ad.add j)=some v) :
  (Builtin.firstCells sz n (.slice yb n yc)).run P w' = .ok vs.toArray w':=by
 cases yb with
 | none=>
  have:=hnil rfl
  subst this
  have:vs = []:=List.eq_nil_of_length_eq_zero (by simpa using hl)
  subst this
  exact run_firstCells_none w' sz 0 0 yc
 | some ad=>exact run_firstCells_some w' sz n ad n yc vs hl (hc ad rfl)
theorem grow_world(w:World)(o:Obj):Grew w (w.drew.alloc o):=(Grew.drew w).trans (Grew.alloc _ _)
theorem ok_app(h:HOK G c H w){al:Al}(hal:AlOK H al){t u ty e:TypeId}{i:TypeInfo}{z:List D}(ht:P.underlying t=some (.slice e))(hu:∃ e',P.underlying u=some (.slice e'))(hi:P.info? e=some i)(hz:zeroT P e=some z)(hzl:z.length=i.size)(hpos:0<i.size)
  {x y:D} {ux uy:Value} (h1:Rep c w ux x) (h2:Rep c w uy y) (hk:appK e i.size i.bytes x y H al K):∃ r w',(Builtin.append_ #[t,u] ty #[ux,uy]).run P w = .ok r w'∧Post G c H w K r w':=by
 obtain⟨zv,hzv,hzi,hzc⟩:=run_zeroValue hz w
 have hzi':i.zero=some zv:=by simpa[hi]using hzi
 have hzsz:zv.cells.size=i.size:=by have:=(hzc c w).len;simp at this;omega
 unfold appK at hk
 split at hk
 ·rename_i ys n hys
  obtain⟨yb,yc,vs,huy,hvs,hyl,hyc,hynil,hyat⟩:=sliceCells_ok h hpos h2 hys
  have hvl:vs.length=n*i.size:=by rw[hvs.len,hyl]
  have hnew:∀ w',(∀ b,w'.cell? b=w.cell? b)→(Builtin.firstCells i.size n uy).run P w' = .ok vs.toArray w':=fun w' hw'=>by
   rw[huy];exact firstCells_ok hvl hynil (fun ad ha j v hj=>by rw[hw'];exact hyat ad ha j v hj)
  split at hk
  ·rename_i v g sz' len
   split at hk
   ·rename_i t' cs hrow
    have hv:=rowAt_some hrow
    dsimp only at hv
    obtain⟨⟨rfl,hte,hlen,hby,h63⟩,hk⟩:=hk
    have hte':=hte.symm
    subst hte'
    clear hte
    have hvlt:v<H.length:=(List.getElem?_eq_some_iff.1 hv).1
    cases h1 with
    | osl _ _ _ _ _ cap L hι hvirt hcap hmax htop=>
     obtain⟨arr,ha1,ha2,ha3,ha4⟩:=row_at h hv hι hvirt
     simp only[Nat.zero_add,Nat.zero_mul,Nat.add_zero]at htop ⊢
     have holdc:Cells c w ((((arr.toList.drop L.base).take cs.length)).take (len*i.size)) (cs.take (len*i.size)):=ha4.take _
     by_cases hroom:len+n≤cap
     ·have hfit:L.base+len*i.size+vs.length≤arr.size:=by
       rw[hvl,Nat.add_assoc,← Nat.add_mul,← ha2,← htop]
       exact Nat.add_le_add_left (Nat.mul_le_mul_right _ hroom) _
      have hrun:=run_append_in (ty:=ty) ht hu hi L.b L.base len cap uy yb n yc huy vs arr ha1 (hnew w fun _=>rfl) hvs.one hroom hfit
      refine⟨_,_,hrun,?_⟩
      have hsz:(arr.toList.take (L.base+len*i.size)++vs++arr.toList.drop (L.base+len*i.size+vs.length)).toArray.size=arr.size:=by simp;omega
      obtain⟨m1,m2⟩:=move_cells (w':=w.setRow L.b (arr.toList.take (L.base+len*i.size)++vs++arr.toList.drop (L.base+len*i.size+vs.length)).toArray) h hv hι L hvirt
       ⟨⟨rfl,Nat.le_refl _⟩,rfl,rfl,by simp[World.setRow]⟩ (fun b _ hn=>by simp only[World.setRow,Array.getElem?_modify];rw[if_neg (fun e=>hn ⟨hvirt,e.symm⟩)])
       ⟨.inr ⟨hvirt,rfl⟩,by have:=h.lt _ ⟨v,L,⟨_,hv,rfl,hι⟩,hvirt,rfl⟩;simpa[World.setRow]using this⟩
       _ (setRow_heap w L.b arr _ _ _ ha1) (by rw[ha2,hsz]) (cs.take (len*i.size)++ys) (by simp only[List.length_append,List.length_take];rw[← hvs.len];omega) (fun j d hd=>by
        obtain⟨x,hx,hx1,hx2⟩:=(holdc.append hvs).get hd
        refine⟨x,?_,hx1,hx2⟩
        rw[← hx]
        simp only[List.getElem?_toArray]
        have hl1:(List.take (L.base+len*i.size) arr.toList).length=L.base+len*i.size:=by simp;omega
        have hl2:(List.take (len*i.size) (List.take cs.length (List.drop L.base arr.toList))).length=len*i.size:=by simp;omega
        by_cases c1:j<len*i.size
        ·rw[List.getElem?_append_left (by simp;omega),List.getElem?_append_left (by rw[hl1];omega),List.getElem?_append_left (by rw[hl2];omega)]
         simp only[List.getElem?_take,List.getElem?_drop]
         rw[if_pos (by omega),if_pos (by omega),if_pos (by omega)]
        ·have hjl:j<len*i.size+vs.length:=by have:=(List.getElem?_eq_some_iff.1 hx).1;rw[List.length_append,hl2]at this;omega
         rw[List.getElem?_append_left (by rw[List.length_append,hl1];omega),List.getElem?_append_right (by rw[hl1];omega),List.getElem?_append_right (by rw[hl2];omega),hl1,hl2]
         congr 1
         omega)
      refine⟨_,_,_,hk,m1,?_,m2⟩
      have:=Rep.osl (c:=c.set v (g+1) L) (w:=w.setRow L.b (arr.toList.take (L.base+len*i.size)++vs++arr.toList.drop (L.base+len*i.size+vs.length)).toArray) v (g+1) i.size 0 (len+n) cap L (Ctx.set_same _ _ _ _) hvirt hroom hmax (by simpa using htop)
      simpa using this
     ·have hold:(Builtin.firstCells i.size len (.slice (some ⟨L.b,L.base,none⟩) len cap)).run P w.drew = .ok ((((arr.toList.drop L.base).take cs.length)).take (len*i.size)).toArray w.drew:=by
       refine run_firstCells_some _ _ _ _ _ _ _ (by rw[holdc.len];simp;omega) (fun j v hj=>?_)
       rw[List.getElem?_take]at hj
       split at hj
       ·rw[List.getElem?_take]at hj
        split at hj
        ·rw[List.getElem?_drop]at hj
         rw[Addr.add_lit]
         show w.cell? ⟨L.b,L.base+j,none⟩=some v
         simp[World.cell?,ha1]
         simpa using hj
        ·cases hj
       ·cases hj
      have hrun:=run_append_new (ty:=ty) ht hu hi hzi' (some ⟨L.b,L.base,none⟩) len cap uy yb n yc huy _ vs hold (hnew _ fun _=>rfl) (by omega) h63 hby
      refine⟨_,_,hrun,?_⟩
      have hsz1:(((arr.toList.drop L.base).take cs.length).take (len*i.size)).toArray.size=len*i.size:=by have:=holdc.len;simp at this ⊢;omega
      have hgc:=grownCap_ge w (len+n) cap e
      have hgm:=grownCap_le_maxLen w (len+n) cap e (by unfold maxLen;omega)
      obtain⟨m1,m2⟩:=move_cells (w':=w.drew.alloc (.cells ((((arr.toList.drop L.base).take cs.length).take (len*i.size)).toArray++vs.toArray++Builtin.zeroCells zv.cells (grownCap w (len+n) cap e-(len+n))) e)) h hv hι
       ⟨w.heap.size,0,grownCap w (len+n) cap e*i.size,false⟩ rfl ⟨⟨rfl,Nat.le_succ _⟩,rfl,rfl,by simp⟩ (fun b hb _=>(grow_world w _).kept b hb) ⟨.inl (Nat.le_refl _),by simp⟩
       _ (heap_alloc_new w.drew _) (by
        simp only[Array.size_append,hsz1,List.size_toArray,hvl,size_zeroCells,hzsz,← Nat.add_mul]
        congr 1;omega) (cs.take (len*i.size)++ys) (by
        simp only[List.length_append,List.length_take,hyl,Nat.zero_add]
        have:=Nat.mul_le_mul_right i.size hgc
        rw[Nat.add_mul]at this
        omega) (fun j d hd=>by
        obtain⟨x,hx,hx1,hx2⟩:=(holdc.append hvs).get hd
        refine⟨x,?_,hx1,hx2⟩
        rw[← hx,Nat.zero_add,← Array.getElem?_toList]
        have hlt:=(List.getElem?_eq_some_iff.1 hx).1
        simp only[Array.toList_append]
        rw[List.getElem?_append_left (by simpa using hlt)])
      refine⟨_,_,_,hk,m1,?_,m2⟩
      have:=Rep.osl (c:=c.set v (g+1) ⟨w.heap.size,0,grownCap w (len+n) cap e*i.size,false⟩) (w:=w.drew.alloc (.cells ((((arr.toList.drop L.base).take cs.length).take (len*i.size)).toArray++vs.toArray++Builtin.zeroCells zv.cells (grownCap w (len+n) cap e-(len+n))) e))
       v (g+1) i.size 0 (len+n) (grownCap w (len+n) cap e) ⟨w.heap.size,0,grownCap w (len+n) cap e*i.size,false⟩ (Ctx.set_same _ _ _ _) rfl hgc hgm (by simp)
      simpa using this
    | oslz _ _ _ _ L hι ad=>
     simp only[Nat.zero_add,Nat.zero_mul,List.take_zero,List.nil_append]at hk hby h63 ⊢
     by_cases hn:n=0
     ·subst hn
      have hvs0:vs = []:=List.eq_nil_of_length_eq_zero (by simpa using hvl)
      have hys0:ys = []:=List.eq_nil_of_length_eq_zero (by simpa using hyl)
      subst hys0
      have hrun:(Builtin.append_ #[t,u] ty #[.slice ad 0 0,uy]).run P w = .ok (.slice ad 0 0) w:=by
       obtain⟨e',hu⟩:=hu
       have hnw:=hnew w fun _=>rfl
       rw[hvs0]at hnw
       rw[huy]at hnw ⊢
       simp[Builtin.append_,run_underlying ht,run_underlying hu,sizeOf,typeInfo,hi,Builtin.lenOf,hnw]
       cases ad<;>simp[storeCells]
      obtain⟨m1,m2⟩:=empty_row h hv hι
      exact⟨_,_,hrun,_,_,_,hk,m1,.oslz v (g+1) i.size 0 L (Ctx.set_same _ _ _ _) ad,m2⟩
     ·have hold:(Builtin.firstCells i.size 0 (.slice ad 0 0)).run P w.drew = .ok ([]:List Value).toArray w.drew:=firstCells_ok (by simp) (fun _=>rfl) (fun _ _ j v hj=>by simp at hj)
      have hrun:=run_append_new (w:=w) (ty:=ty) ht hu hi hzi' ad 0 0 uy yb n yc huy [] vs hold (hnew _ fun _=>rfl) (by omega) (by omega) (by simpa using hby)
      simp only[Nat.zero_add]at hrun
      refine⟨_,_,hrun,?_⟩
      have hgc:=grownCap_ge w n 0 e
      have hgm:=grownCap_le_maxLen w n 0 e (by unfold maxLen;omega)
      obtain⟨m1,m2⟩:=move_cells (w':=w.drew.alloc (.cells (([]:List Value).toArray++vs.toArray++Builtin.zeroCells zv.cells (grownCap w n 0 e-n)) e)) h hv hι
       ⟨w.heap.size,0,grownCap w n 0 e*i.size,false⟩ rfl ⟨⟨rfl,Nat.le_succ _⟩,rfl,rfl,by simp⟩ (fun b hb _=>(grow_world w _).kept b hb) ⟨.inl (Nat.le_refl _),by simp⟩
       _ (heap_alloc_new w.drew _) (by
        simp only[Array.size_append,List.size_toArray,List.length_nil,hvl,size_zeroCells,hzsz,Nat.zero_add,← Nat.add_mul]
        congr 1;omega) ys (by
        simp only[hyl,Nat.zero_add]
        exact Nat.mul_le_mul_right i.size hgc) (fun j d hd=>by
        obtain⟨x,hx,hx1,hx2⟩:=hvs.get hd
        refine⟨x,?_,hx1,hx2⟩
        rw[← hx,Nat.zero_add,← Array.getElem?_toList]
        have hlt:=(List.getElem?_eq_some_iff.1 hx).1
        simp only[Array.toList_append,List.nil_append]
        rw[List.getElem?_append_left (by simpa using hlt)])
      refine⟨_,_,_,hk,m1,?_,m2⟩
      have:=Rep.osl (c:=c.set v (g+1) ⟨w.heap.size,0,grownCap w n 0 e*i.size,false⟩) (w:=w.drew.alloc (.cells (([]:List Value).toArray++vs.toArray++Builtin.zeroCells zv.cells (grownCap w n 0 e-n)) e))
       v (g+1) i.size 0 n (grownCap w n 0 e) ⟨w.heap.size,0,grownCap w n 0 e*i.size,false⟩ (Ctx.set_same _ _ _ _) rfl hgc hgm (by simp)
      simpa using this
   ·exact hk.elim
  ·cases h1 with
   | emp=>
    by_cases hn:n=0
    ·rw[if_pos hn]at hk
     subst hn
     have hvs0:vs = []:=List.eq_nil_of_length_eq_zero (by simpa using hvl)
     have hrun:(Builtin.append_ #[t,u] ty #[.slice none 0 0,uy]).run P w = .ok (.slice none 0 0) w:=by
      obtain⟨e',hu⟩:=hu
      have hnw:=hnew w fun _=>rfl
      rw[hvs0]at hnw
      rw[huy]at hnw ⊢
      simp[Builtin.append_,run_underlying ht,run_underlying hu,sizeOf,typeInfo,hi,Builtin.lenOf,hnw]
     exact⟨_,_,hrun,.plain h hk .emp⟩
    ·rw[if_neg hn]at hk
     obtain⟨⟨hby,h63⟩,hk⟩:=hk
     have hold:(Builtin.firstCells i.size 0 (.slice none 0 0)).run P w.drew = .ok ([]:List Value).toArray w.drew:=firstCells_ok (by simp) (fun _=>rfl) (fun _ _ j v hj=>by simp at hj)
     have hrun:=run_append_new (w:=w) (ty:=ty) ht hu hi hzi' none 0 0 uy yb n yc huy [] vs hold (hnew _ fun _=>rfl) (by omega) (by omega) (by simpa using hby)
     simp only[Nat.zero_add]at hrun
     refine⟨_,_,hrun,?_⟩
     have hgc:=grownCap_ge w n 0 e
     have hgm:=grownCap_le_maxLen w n 0 e (by unfold maxLen;omega)
     have hsz:(([]:List Value).toArray++vs.toArray++Builtin.zeroCells zv.cells (grownCap w n 0 e-n)).size=grownCap w n 0 e*i.size:=by
      simp only[Array.size_append,List.size_toArray,List.length_nil,hvl,size_zeroCells,hzsz,Nat.zero_add,← Nat.add_mul]
      congr 1;omega
     obtain⟨L,e1,e2,e3,e4,e5,e6⟩:=new_row h w.drew (Grew.drew w) e vs ys vs.length (([]:List Value).toArray++vs.toArray++Builtin.zeroCells zv.cells (grownCap w n 0 e-n)) (hal _).takes hvs (by
      simp only[Array.toList_append,List.nil_append]
      exact List.take_left) (by simp only[Array.size_append,List.size_toArray];omega)
     have hp:=osl_new (c:=c) (w:=w.drew.alloc (.cells (([]:List Value).toArray++vs.toArray++Builtin.zeroCells zv.cells (grownCap w n 0 e-n)) e)) e1 e3 al.1 0 i.size n (grownCap w n 0 e) (by rw[e4,hsz]) hgc hgm
     rw[e2]at hp
     exact⟨_,_,_,hk,e5,hp,e6⟩
  ·exact hk.elim
 ·exact hk.elim
theorem ok_copy(h:HOK G c H w){t u ty e:TypeId}{sz:Nat}(ht:P.underlying t=some (.slice e))(hs:sizeT P e=some sz)(hpos:0<sz){x y:D}{ux uy:Value}(h1:Rep c w ux x)(h2:Rep c w uy y)(hk:copyK sz x y H K) :
  ∃ r w',(Builtin.copy_ #[t,u] ty #[ux,uy]).run P w = .ok r w'∧Post G c H w K r w':=by
 have key:∀ (ys:List D) (n:Nat),sliceCells sz H y=some (ys,n)→∃ vs yb yc,uy = .slice yb n yc∧Cells c w vs ys∧ys.length=n*sz∧∀ m,m≤n→(Builtin.firstCells sz m uy).run P w = .ok (vs.take (m*sz)).toArray w:=by
  intro ys n hys
  obtain⟨yb,yc,vs,huy,hvs,hyl,hyc,hynil,hyat⟩:=sliceCells_ok h hpos h2 hys
  refine⟨vs,yb,yc,huy,hvs,hyl,fun m hm=>?_⟩
  have hvl:vs.length=n*sz:=by rw[hvs.len,hyl]
  have hle:=Nat.mul_le_mul_right sz hm
  rw[huy]
  cases yb with
  | none=>
   have:=hynil rfl
   subst this
   have:m=0:=by omega
   subst this
   simp[Builtin.firstCells]
  | some ad=>
   refine run_firstCells_some w sz m ad n yc _ (by simp;omega) (fun j v hj=>?_)
   rw[List.getElem?_take]at hj
   split at hj
   ·exact hyat ad rfl j v hj
   ·cases hj
 unfold copyK at hk
 split at hk
 ·rename_i v g sz' off len ys n hys
  obtain⟨vs,yb,yc,huy,hvs,hyl,hfc⟩:=key ys n hys
  split at hk
  ·rename_i t' cs hrow
   have hv:=rowAt_some hrow
   dsimp only at hv
   obtain⟨⟨rfl,hfit⟩,hk⟩:=hk
   have hf:=hfc (min n len) (Nat.min_le_left _ _)
   have hle:min n len*sz'≤vs.length:=by rw[hvs.len,hyl];exact Nat.mul_le_mul_right _ (Nat.min_le_left _ _)
   have hle2:min n len*sz'≤len*sz':=Nat.mul_le_mul_right _ (Nat.min_le_right _ _)
   rw[Nat.add_mul]at hfit
   cases h1 with
   | osl _ _ _ _ _ cap L hι hvirt hcap hmax htop=>
    obtain⟨arr,ha1,ha2,ha3,ha4⟩:=row_at h hv hι hvirt
    have hst:=run_storeCells_at P L.b (L.base+off*sz') t' (vs.take (min n len*sz')) 0 arr w ha1 (by simp;omega) (fun v hv=>hvs.one v (List.mem_of_mem_take hv))
    simp only[Nat.add_zero]at hst
    have hrun:(Builtin.copy_ #[t,u] ty #[.slice (some ⟨L.b,L.base+off*sz',none⟩) len cap,uy]).run P w = .ok (goInt (min n len:Nat)) (w.setRow L.b (arr.toList.take (L.base+off*sz')++vs.take (min n len*sz')++arr.toList.drop (L.base+off*sz'+(vs.take (min n len*sz')).length)).toArray):=by
     rw[huy]at hf ⊢
     have hm:n.min len=min n len:=rfl
     simp[Builtin.copy_,run_underlying ht,Builtin.lenOf,run_sizeOf' hs,hm,hf,hst]
    have hvl:(vs.take (min n len*sz')).length=min n len*sz':=by simp;omega
    have hcsp:=ha4.splice (hvs.take (min n len*sz')) (off*sz')
    have hyl':(ys.take (min n len*sz')).length=min n len*sz':=by rw[List.length_take,← hvs.len];omega
    obtain⟨m1,m2⟩:=write_row h hv hι hvirt ha1 (arr.toList.take (L.base+off*sz')++vs.take (min n len*sz')++arr.toList.drop (L.base+off*sz'+(vs.take (min n len*sz')).length)).toArray (by simp;omega) ha2
     (cs.take (off*sz')++ys.take (min n len*sz')++cs.drop (off*sz'+min n len*sz')) (by simp only[List.length_append,List.length_take,List.length_drop];omega) (fun j d hd=>by
      rw[hyl',hvl]at hcsp
      obtain⟨x,hx,hx1,hx2⟩:=hcsp.get hd
      refine⟨x,?_,hx1,hx2⟩
      rw[← hx]
      simp only[List.getElem?_toArray,hvl]
      have hl1:(List.take (L.base+off*sz') arr.toList).length=L.base+off*sz':=by simp;omega
      have hl2:(List.take (off*sz') (List.take cs.length (List.drop L.base arr.toList))).length=off*sz':=by simp;omega
      by_cases c1:j<off*sz'
      ·rw[List.getElem?_append_left (by simp;omega),List.getElem?_append_left (by rw[hl1];omega),List.getElem?_append_left (by simp;omega),List.getElem?_append_left (by rw[hl2];omega)]
       simp only[List.getElem?_take,List.getElem?_drop]
       rw[if_pos (by omega),if_pos c1,if_pos (by omega)]
      ·by_cases c2:j<off*sz'+min n len*sz'
       ·rw[List.getElem?_append_left (by rw[List.length_append,hl1,hvl];omega),List.getElem?_append_right (by rw[hl1];omega),List.getElem?_append_left (by rw[List.length_append,hl2,hvl];omega),List.getElem?_append_right (by rw[hl2];omega),hl1,hl2]
        congr 1
        omega
       ·have hd':j<cs.length:=by have:=(List.getElem?_eq_some_iff.1 hd).1;simp at this;omega
        rw[List.getElem?_append_right (by rw[List.length_append,hl1,hvl];omega),List.getElem?_append_right (by rw[List.length_append,hl2,hvl];omega)]
        simp only[List.getElem?_drop,List.getElem?_take,List.length_append,hl1,hl2,hvl]
        rw[if_pos (by omega)]
        congr 1
        omega)
    exact⟨_,_,hrun,_,_,c,hk,m1,.val _,m2⟩
   | oslz _ _ _ _ L hι ad=>
    have hm0:min n 0=0:=Nat.min_zero n
    simp only[hm0,Nat.zero_mul,List.take_zero,List.append_nil,Nat.add_zero,List.take_append_drop]at hk hf
    have hset:H.set v (.row t' g cs)=H:=by
     apply List.ext_getElem?
     intro j
     rw[List.getElem?_set]
     have hvl:v<H.length:=(List.getElem?_eq_some_iff.1 hv).1
     split
     ·rename_i e
      subst e
      first|(rw[if_pos hvl];exact hv.symm)|exact hv.symm
     ·rfl
    rw[hset]at hk
    refine⟨goInt 0,w,?_,.plain h hk (.val _)⟩
    rw[huy]at hf ⊢
    have hm:n.min 0=0:=Nat.min_zero n
    simp[Builtin.copy_,run_underlying ht,Builtin.lenOf,run_sizeOf' hs,hm,hf]
    cases ad<;>simp[storeCells]
  ·exact hk.elim
 ·rename_i q hys
  obtain⟨ys,n⟩:=q
  obtain⟨vs,yb,yc,huy,hvs,hyl,hfc⟩:=key ys n hys
  cases h1 with
  | emp=>
   have hf:=hfc 0 (Nat.zero_le _)
   refine⟨goInt 0,w,?_,.plain h hk (.val _)⟩
   rw[huy]at hf ⊢
   have hm:n.min 0=0:=Nat.min_zero n
   simp only[Nat.zero_mul,List.take_zero]at hf
   simp[Builtin.copy_,run_underlying ht,Builtin.lenOf,run_sizeOf' hs,hm,hf]
 ·exact hk.elim
end
end Go.AL
namespace Go.AL
open Go
section
variable{P:Program}{G:GT}{c:Ctx}{H:Heap}{w:World}{K:Kont}{env:EnvF}{a:Act}
theorem keyOf_ok{x:D}{kv u:Value}(hr:Rep c w u x)(h:keyOf x=some kv):u=kv:=by
 unfold keyOf at h
 split at h
 ·cases h;cases hr;rfl
 ·cases h;cases hr;rfl
 ·cases h;cases hr;rfl
 ·rename_i cs
  simp only[Option.map_eq_some_iff]at h
  obtain⟨l,hl,rfl⟩:=h
  cases hr with
  | agg vs _ hlen _ h1=>
   have key:∀ (cs:List D) (vs l:List Value),keyCells cs=some l→vs.length=cs.length→(∀ (i:Nat) (v:Value) (d:D),vs[i]? = some v→cs[i]? = some d→Rep c w v d)→vs=l:=by
    intro cs
    induction cs with
    | nil=>intro vs l hl hlen _;simp[keyCells]at hl;subst hl;exact List.eq_nil_of_length_eq_zero (by simpa using hlen)
    | cons d cs ih=>
     intro vs l hl hlen h1
     cases vs with
     | nil=>simp at hlen
     | cons v vs=>
      unfold keyCells at hl
      split at hl
      ·rename_i heq;cases heq
      ·rename_i k n r heq
       cases heq
       simp only[Option.map_eq_some_iff]at hl
       obtain⟨l',hl',rfl⟩:=hl
       have h0:=h1 0 v _ rfl rfl
       cases h0
       rw[ih vs l' hl' (by simpa using hlen) (fun i v d hv hd=>h1 (i+1) v d (by simpa using hv) (by simpa using hd))]
      ·cases hl
   rw[key cs vs l hl hlen h1]
 ·cases h
theorem underlying_kk{t:TypeId}{kk:KK}(h:kkOf P t=some kk):∃ d,P.underlying t=some d∧((∃ k,d = .int k∧kk = .int k)∨(d = .string∧kk = .str)∨(d = .bool∧kk = .bool)):=by
 unfold kkOf at h
 split at h
 ·rename_i k hu;cases h;exact⟨_,hu,.inl ⟨k,rfl,rfl⟩⟩
 ·rename_i hu;cases h;exact⟨_,hu,.inr (.inl ⟨rfl,rfl⟩)⟩
 ·rename_i hu;cases h;exact⟨_,hu,.inr (.inr ⟨rfl,rfl⟩)⟩
 ·cases h
theorem run_checkKey{t:TypeId}{kk:KK}(h:kkOf P t=some kk)(b:Bool){kv:Value}(_hk:kk.has kv=true)(w:World):(Instr.checkKey b 10000 t kv).run P w = .ok () w:=by
 obtain⟨d,hd,hc⟩:=underlying_kk h
 unfold Instr.checkKey
 rcases hc with⟨k,rfl,rfl⟩|⟨rfl,rfl⟩|⟨rfl,rfl⟩<;>simp only[Sem.run_bind,run_underlying hd,Result.andThen_ok]<;>rfl
def findIx(kv:Value):List MapEntry→Nat→Option (Nat×Value)
 | [],_=>none
 | e::es,i=>if keyEq kv e.key then some (i,e.val)else findIx kv es (i+1)
theorem findNow_ok{d:TypeDesc}{kk:KK}(hc:(∃ k,d = .int k∧kk = .int k)∨(d = .string∧kk = .str)∨(d = .bool∧kk = .bool)){kv:Value}(hk:kk.has kv=true) :
  ∀ (es:List MapEntry) (i:Nat),(∀ e∈es,kk.has e.key=true)→Instr.findNow d kv es i=some (findIx kv es i):=by
 intro es
 induction es with
 | nil=>intro i _;rfl
 | cons e es ih=>
  intro i h
  have he:=h e (by simp)
  have ih':=ih (i+1) (fun e he=>h e (by simp[he]))
  unfold Instr.findNow findIx
  have hs:Instr.sameNow d kv e.key=some (keyEq kv e.key):=by
   obtain⟨key,val,born⟩:=e
   rcases hc with⟨k,rfl,rfl⟩|⟨rfl,rfl⟩|⟨rfl,rfl⟩<;>cases kv<;>simp[KK.has]at hk<;>cases key<;>simp[KK.has]at he<;>simp[Instr.sameNow,keyEq]
   subst hk;subst he;simp
  rw[hs]
  cases keyEq kv e.key
  ·simp only[ih'];rfl
  ·rfl
theorem run_findKey{t:TypeId}{kk:KK}(h:kkOf P t=some kk){kv:Value}(hk:kk.has kv=true)(es:List MapEntry)(hes:∀ e∈es,kk.has e.key=true)(w:World) :
  (Instr.findKey t kv es).run P w = .ok (findIx kv es 0) w:=by
 obtain⟨d,hd,hc⟩:=underlying_kk h
 simp[Instr.findKey,run_underlying hd,findNow_ok hc hk es 0 hes]
theorem mapIs_keys{arr:Array MapEntry}{clock:Nat}{es:List (Value×D)}(hm:MapIs c w arr clock es){kk:KK}(hk:∀ x∈es,kk.has x.1=true):∀ e∈arr.toList,kk.has e.key=true:=by
 intro e he
 obtain⟨i,hi⟩:=List.mem_iff_getElem?.1 he
 have hl:i<es.length:=by rw[← hm.1];have:=(List.getElem?_eq_some_iff.1 hi).1;simpa using this
 obtain⟨h1,_⟩:=hm.2.1 i e es[i] (by simpa using hi) (by simp[hl])
 rw[h1]
 exact hk _ (List.getElem_mem hl)
theorem findIx_ok(kv:Value):∀ (l:List MapEntry) (es:List (Value×D)) (i:Nat),l.length=es.length →
  (∀ (j:Nat) (e:MapEntry) (x:Value×D),l[j]? = some e→es[j]? = some x→e.key=x.1∧Rep c w e.val x.2) →
  (findIx kv l i=none∧mapGet es kv=none∧∀ y,mapSet es kv y=es ++ [(kv,y)]) ∨
  (∃ j v d,findIx kv l i=some (i+j,v)∧mapGet es kv=some d∧Rep c w v d∧j<l.length∧(∀ y,mapSet es kv y=es.set j (kv,y))∧∃ e,l[j]? = some e∧keyEq kv e.key=true)
 | [],[],i,_,_=>.inl ⟨rfl,rfl,fun _=>rfl⟩
 | e::l,(k,d)::es,i,hl,h=>by
  obtain⟨hk,hr⟩:=h 0 e (k,d) rfl rfl
  dsimp only at hk hr
  by_cases he:keyEq kv e.key=true
  ·refine .inr ⟨0,e.val,d,by simp[findIx,he],by simp[mapGet,← hk,he],hr,by simp,fun y=>by simp[mapSet,← hk,he],e,rfl,he⟩
  ·have he':keyEq kv k=false:=by rw[← hk];simpa using he
   rcases findIx_ok kv l es (i+1) (by simpa using hl) (fun j e x he hx=>h (j+1) e x (by simpa using he) (by simpa using hx))with⟨h1,h2,h3⟩|⟨j,v,d',h1,h2,h3,h4,h5,e',h6,h7⟩
   ·exact .inl ⟨by simp[findIx,he,h1],by simp[mapGet,he',h2],fun y=>by simp[mapSet,he',h3]⟩
   ·exact .inr ⟨j+1,v,d',by simp[findIx,he,h1];omega,by simp[mapGet,he',h2],h3,by simp;omega,fun y=>by simp[mapSet,he',h5],e',by simpa using h6,h7⟩
theorem ok_lookup(h:HOK G c H w){t k e:TypeId}{kk:KK}{z:D}(hu:P.underlying t=some (.map k e))(hkk:kkOf P k=some kk)(hz:zeroD P e=some z)(ok:Bool){m x:D}{u v:Value}(h1:Rep c w u m)(h2:Rep c w v x)
  (hk:lookupK kk z ok m x H K):∃ r,(Instr.lookup t u v ok).run P w = .ok r w∧Post G c H w K r w:=by
 have hzero:∃ zv,(zeroValue e).run P w = .ok zv w∧Rep c w zv z:=by
  unfold zeroD at hz
  cases hi:P.info? e with
  | none=>simp[hi]at hz
  | some i=>
   simp only[hi,Option.bind_some]at hz
   cases hzz:i.zero with
   | none=>simp[hzz]at hz
   | some zv=>
    simp only[hzz,Option.bind_some]at hz
    exact⟨zv,by simp[zeroValue,run_typeInfo hi,hzz],rep_constD hz⟩
 obtain⟨zv,hzv,hzr⟩:=hzero
 unfold lookupK at hk
 split at hk
 ·rename_i v0 kv hkv
  split at hk
  ·rename_i kk' es hes
   obtain⟨rfl,hhas,hk⟩:=hk
   have hv:=keyOf_ok h2 hkv
   subst hv
   cases h1 with
   | omap _ L hι hvirt=>
    have hob:=h.ob v0 _ (mapAt_some hes)
    simp only[Ob.gen]at hob
    rw[hι]at hob
    simp only[ObOK]at hob
    obtain⟨_,hkeys,arr,clock,hm,hmi⟩:=hob
    have hfk:=run_findKey hkk hhas arr.toList (mapIs_keys hmi hkeys) w
    have hck:=run_checkKey (w:=w) hkk arr.isEmpty hhas
    have hrun:(Instr.lookup t (.map (some L.b)) v ok).run P w=((match findIx v arr.toList 0 with
      | some (_,v)=>Result.ok (v,true) w
      | none=>Result.ok (zv,false) w:Result (Value×Bool)).andThen fun p w=>.ok (if ok then .tuple #[p.1,.bool p.2]else p.1) w):=by
     have hgo:(getObj L.b).run P w = .ok (.map arr clock) w:=by simp[getObj,Sem.run,hm]
     simp only[Instr.lookup,Sem.run_bind,run_underlying hu,Result.andThen_ok,hgo,Sem.run_pure,hck,hfk]
     cases findIx v arr.toList 0 with
     | none=>simp[hzv]
     | some p=>obtain⟨_,_⟩:=p;simp
    rcases findIx_ok (c:=c) (w:=w) v arr.toList es 0 (by simpa using hmi.1) (fun j e x he hx=>let ⟨a,b,_⟩:=hmi.2.1 j e x (by simpa using he) hx;⟨a,b⟩)with⟨f1,f2,_⟩|⟨j,val,d,f1,f2,f3,_⟩
    ·rw[f1]at hrun
     rw[f2]at hk
     refine⟨_,hrun,.plain h hk ?_⟩
     cases ok
     ·exact hzr
     ·exact .tup [zv,.bool false] [z,.val (.bool false)] rfl (fun i v d hv hd=>by
       match i with
       | 0=>simp at hv hd;subst hv;subst hd;exact hzr
       | 1=>simp at hv hd;subst hv;subst hd;exact .val _
       | i+2=>simp at hv)
    ·rw[f1]at hrun
     rw[f2]at hk
     refine⟨_,hrun,.plain h hk ?_⟩
     cases ok
     ·exact f3
     ·exact .tup [val,.bool true] [d,.val (.bool true)] rfl (fun i v d' hv hd=>by
       match i with
       | 0=>simp at hv hd;subst hv;subst hd;exact f3
       | 1=>simp at hv hd;subst hv;subst hd;exact .val _
       | i+2=>simp at hv)
  ·exact hk.elim
 ·exact hk.elim
theorem sameBits_of_keyEq{kk:KK}(hkk:kk = .str∨kk = .bool∨∃ k,kk = .int k){old new:Value}(h1:kk.has new=true)(h2:kk.has old=true)(h:keyEq new old=true):Instr.sameBits 10000 old new=true:=by
 rcases hkk with rfl|rfl|⟨k,rfl⟩<;>cases new<;>simp[KK.has]at h1<;>cases old<;>simp[KK.has]at h2<;>simp[keyEq]at h<;>simp[Instr.sameBits]
 ·rename_i x y
  obtain⟨x⟩:=x
  obtain⟨y⟩:=y
  have h':(x == y)=true:=h
  have e:=eq_of_beq h'
  subst e
  exact h
 ·exact h.symm
 ·exact⟨h.1.symm,h.2.symm⟩
theorem write_at{G:GT}{c:Ctx}{H:Heap}{w:World}(h:HOK G c H w){v:Nat}{ob ob':Ob}(hv:H[v]? = some ob)(ha:ob.alive=true)(ha':ob'.alive=true)(hgen:ob'.gen=ob.gen){L:Loc}(hι:c.ι v ob.gen=some L)(hvirt:L.virt=false)(o':Obj)
  (hob:∀ w',w'.heap[L.b]? = some o'→(∀ u d,Rep c w u d→Rep c w' u d)→ObOK c w' (some L) ob') :
  HOK G c (H.set v ob') { w with heap:=w.heap.setIfInBounds L.b o' }∧Step H.length c H w c (H.set v ob') { w with heap:=w.heap.setIfInBounds L.b o' }:=by
 have hlt:=h.lt _ ⟨v,L,⟨ob,hv,ha,hι⟩,hvirt,rfl⟩
 refine write_obj (w':={ w with heap:=w.heap.setIfInBounds L.b o' }) h hv ha ha' hgen hι hvirt ⟨rfl,Nat.le_refl _⟩ rfl rfl (by simp) (fun b hb=>?_) (hob _ (by simp[hlt]))
 rw[Array.getElem?_setIfInBounds_ne (Ne.symm hb)]
theorem mapSet_mem{es:List (Value×D)}{kv:Value}{y:D}:∀ x∈mapSet es kv y,x∈es∨x=(kv,y):=by
 induction es with
 | nil=>intro x hx;simp[mapSet]at hx;exact .inr hx
 | cons e es ih=>
  intro x hx
  obtain⟨k,d⟩:=e
  simp only[mapSet]at hx
  split at hx
  ·rcases List.mem_cons.1 hx with rfl|hx
   ·exact .inr rfl
   ·exact .inl (by simp[hx])
  ·rcases List.mem_cons.1 hx with rfl|hx
   ·exact .inl (by simp)
   ·rcases ih x hx with h|h
    ·exact .inl (by simp[h])
    ·exact .inr h
theorem ok_mapUpd(h:HOK G c H w){t k e:TypeId}{kk:KK}(hu:P.underlying t=some (.map k e))(hkk:kkOf P k=some kk){m x y:D}{u v vy:Value}(h1:Rep c w u m)(h2:Rep c w v x)(h3:Rep c w vy y)
  (hk:mapUpdK kk m x y H K):∃ w',(Instr.mapUpdate t u v vy).run P w = .ok () w'∧Post G c H w K undef w':=by
 have hplain:kk = .str∨kk = .bool∨∃ k,kk = .int k:=by
  obtain⟨d,_,hc⟩:=underlying_kk hkk
  rcases hc with⟨k,_,rfl⟩|⟨_,rfl⟩|⟨_,rfl⟩
  ·exact .inr (.inr ⟨k,rfl⟩)
  ·exact .inl rfl
  ·exact .inr (.inl rfl)
 unfold mapUpdK at hk
 split at hk
 ·rename_i v0 kv hkv
  split at hk
  ·rename_i kk' es hes
   obtain⟨rfl,hhas,hk⟩:=hk
   have hv:=keyOf_ok h2 hkv
   subst hv
   cases h1 with
   | omap _ L hι hvirt=>
    have hob:=h.ob v0 _ (mapAt_some hes)
    simp only[Ob.gen]at hob
    rw[hι]at hob
    simp only[ObOK]at hob
    obtain⟨_,hkeys,arr,clock,hm,hmi⟩:=hob
    have hak:=mapIs_keys hmi hkeys
    have hfk:=run_findKey hkk hhas arr.toList hak w
    have hck:=run_checkKey (w:=w) hkk false hhas
    have hkeys':∀ y',∀ x∈mapSet es v y',kk'.has x.1=true:=fun y' x hx=>by
     rcases mapSet_mem x hx with h|rfl
     ·exact hkeys x h
     ·exact hhas
    rcases findIx_ok (c:=c) (w:=w) v arr.toList es 0 (by simpa using hmi.1) (fun j e x he hx=>let ⟨a,b,_⟩:=hmi.2.1 j e x (by simpa using he) hx;⟨a,b⟩)with⟨f1,f2,f3⟩|⟨j,val,d,f1,f2,_,f4,f5,e',f6,f7⟩
    ·have hrun:(Instr.mapUpdate t (.map (some L.b)) v vy).run P w = .ok () { w with heap:=w.heap.setIfInBounds L.b (.map (arr.push { key:=v,val:=vy,born:=clock }) (clock+1)) }:=by
      have hgo:(getObj L.b).run P w = .ok (.map arr clock) w:=by simp[getObj,Sem.run,hm]
      simp only[Instr.mapUpdate,Sem.run_bind,run_underlying hu,Result.andThen_ok,hgo,hck,hfk,f1]
      simp[setObj,Sem.run,hm]
     obtain⟨m1,m2⟩:=write_at h (mapAt_some hes) rfl rfl rfl hι hvirt (.map (arr.push { key:=v,val:=vy,born:=clock }) (clock+1)) (ob':=.map kk' (mapSet es v y)) (by
      intro w' hw' hr
      simp only[ObOK]
      refine⟨hvirt,hkeys' y,_,_,hw',?_⟩
      rw[f3]
      refine⟨by simp[hmi.1],fun i e x he hx=>?_,by simp[hmi.2.2]⟩
      rw[Array.getElem?_push]at he
      split at he
      ·rename_i hi
       cases he
       rw[List.getElem?_append_right (by rw[hi,hmi.1];exact Nat.le_refl _),hi,hmi.1]at hx
       simp at hx
       subst hx
       exact⟨rfl,hr _ _ h3,by rw[hi,hmi.1,hmi.2.2]⟩
      ·have hi:i<es.length:=by rw[← hmi.1];exact(Array.getElem?_eq_some_iff.1 he).1
       rw[List.getElem?_append_left hi]at hx
       obtain⟨p,q,r⟩:=hmi.2.1 i e x he hx
       exact⟨p,hr _ _ q,r⟩)
     exact⟨_,hrun,.any,_,c,hk,m1,.any _,m2⟩
    ·have hjl:j<arr.size:=by simpa using f4
     have hje:arr[j]? = some e':=by simpa using f6
     have hkey':kk'.has e'.key=true:=hak e' (List.mem_of_getElem? f6)
     have hstays:(Instr.keyThatStays e'.key v).run P w = .ok v w:=by
      simp[Instr.keyThatStays,sameBits_of_keyEq hplain hhas hkey' f7]
     have hrun:(Instr.mapUpdate t (.map (some L.b)) v vy).run P w = .ok () { w with heap:=w.heap.setIfInBounds L.b (.map (arr.modify j fun e=>{ e with key:=v,val:=vy }) clock) }:=by
      have hgo:(getObj L.b).run P w = .ok (.map arr clock) w:=by simp[getObj,Sem.run,hm]
      simp only[Instr.mapUpdate,Sem.run_bind,run_underlying hu,Result.andThen_ok,hgo,hck,hfk,f1,Nat.zero_add,hje,Option.map_some,Option.getD_some,hstays]
      simp[setObj,Sem.run,hm]
     obtain⟨m1,m2⟩:=write_at h (mapAt_some hes) rfl rfl rfl hι hvirt (.map (arr.modify j fun e=>{ e with key:=v,val:=vy }) clock) (ob':=.map kk' (mapSet es v y)) (by
      intro w' hw' hr
      simp only[ObOK]
      refine⟨hvirt,hkeys' y,_,_,hw',?_⟩
      rw[f5]
      refine⟨by simp[hmi.1],fun i e x he hx=>?_,by simp[hmi.2.2]⟩
      ·rw[Array.getElem?_modify]at he
       rw[List.getElem?_set]at hx
       split at he
       ·rename_i hi
        subst hi
        rw[if_pos rfl]at hx
        simp only[Option.map_eq_some_iff]at he
        obtain⟨e0,h0,rfl⟩:=he
        split at hx
        ·cases hx
         have hj:j<es.length:=by rw[← hmi.1];exact hjl
         exact⟨rfl,hr _ _ h3,(hmi.2.1 j e0 es[j] h0 (by simp[hj])).2.2⟩
        ·cases hx
       ·rename_i hi
        rw[if_neg hi]at hx
        obtain⟨p,q,r⟩:=hmi.2.1 i e x he hx
        exact⟨p,hr _ _ q,r⟩)
     exact⟨_,hrun,.any,_,c,hk,m1,.any _,m2⟩
  ·exact hk.elim
 ·exact hk.elim
end
end Go.AL
namespace Go.AL
open Go
section
variable{P:Program}{G:GT}{c:Ctx}{H:Heap}{w:World}{K:Kont}{env:EnvF}{a:Act}
theorem leaf_eq{t:TypeId}{l:Leaf}(hl:leafOf P t=some l)(d:Nat){x y:D}{u v:Value}(h1:Rep c w u x)(h2:Rep c w v y){r:Bool}(h:cellEq l x y=some r):(Op.equalIn (d+1) t u v).run P w = .ok r w:=by
 unfold cellEq at h
 split at h
 ·rename_i k m k' n
  cases h1;cases h2
  split at h
  ·rename_i e
   subst e
   cases h
   unfold leafOf at hl
   split at hl
   ·rename_i k0 hu;exact run_equalIn_int w d t k k0 m n hu
   ·cases hl
   ·cases hl
   ·cases hl
  ·cases h
 ·cases h1;cases h2
  cases h
  unfold leafOf at hl
  split at hl
  ·cases hl
  ·cases hl
  ·rename_i hu;exact run_equalIn_bool' w d t _ _ hu
  ·cases hl
 ·cases h1;cases h2
  cases h
  rename_i p q
  unfold leafOf at hl
  split at hl
  ·cases hl
  ·rename_i hu
   have:=run_equalIn_string (P:=P) w d t p q hu
   rw[ByteArray.toList_eq,ByteArray.toList_eq]at this
   exact this
  ·cases hl
  ·cases hl
 ·cases h
theorem leaf_agg{t:TypeId}{l:Leaf}(hl:leafOf P t=some l):aggT P t=some false:=by
 unfold leafOf at hl
 unfold aggT
 split at hl<;>first|(rename_i hu;simp[hu])|(rename_i k hu;simp[hu])|cases hl
theorem eqFields_ok(d:Nat){vs us:List Value}{xs ys:List D}(hx:Cells c w vs xs)(hy:Cells c w us ys):∀ (fs:List Field) (i:Nat) (ls:List Leaf) (r:Bool),eqFs P i fs=some ls→cellsEq ls (xs.drop i) (ys.drop i)=some r →
  (Op.eqFields (d+1) vs.toArray us.toArray fs).run P w = .ok r w
 | [],i,ls,r,he,hc=>by
  cases he
  unfold cellsEq at hc
  split at hc
  ·cases hc;rfl
  ·rename_i heq _ _;cases heq
  ·cases hc
 | f::fs,i,ls,r,he,hc=>by
  simp only[eqFs]at he
  split at he
  ·rename_i l ls' hl hls
   split at he
   ·rename_i hcond
    obtain⟨hoff,hname⟩:=hcond
    cases he
    cases hxi:xs.drop i with
    | nil=>rw[hxi]at hc;simp[cellsEq]at hc
    | cons x xr=>
     cases hyi:ys.drop i with
     | nil=>rw[hxi,hyi]at hc;simp[cellsEq]at hc
     | cons y yr=>
      rw[hxi,hyi]at hc
      simp only[cellsEq]at hc
      split at hc
      ·rename_i p q hp hq
       cases hc
       have hxg:xs[i]? = some x:=by have:=congrArg (·[0]?) hxi;simpa using this
       have hyg:ys[i]? = some y:=by have:=congrArg (·[0]?) hyi;simpa using this
       have hxr:xs.drop (i+1)=xr:=by rw[← List.drop_drop,hxi];rfl
       have hyr:ys.drop (i+1)=yr:=by rw[← List.drop_drop,hyi];rfl
       obtain⟨u,hu,_,hur⟩:=hx.get hxg
       obtain⟨v,hv,_,hvr⟩:=hy.get hyg
       have ih:=eqFields_ok d hx hy fs (i+1) ls' q hls (by rw[hxr,hyr];exact hq)
       have hle:=leaf_eq (w:=w) hl d hur hvr hp
       have ha:=run_isAgg (leaf_agg hl) w
       have hp1:(part f.type vs.toArray f.offset).run P w = .ok u w:=by simp[part,ha,hoff,hu]
       have hp2:(part f.type us.toArray f.offset).run P w = .ok v w:=by simp[part,ha,hoff,hv]
       simp only[Op.eqFields,if_pos hname,Sem.run_bind,hp1,hp2,Result.andThen_ok,hle,Sem.run_ite,ih]
       cases p<;>simp
      ·cases hc
   ·cases he
  ·cases he
theorem ok_eqS(h:HOK G c H w){t:TypeId}{ls:List Leaf}(ht:eqTy P t=some ls)(neg:Bool){x y:D}{u v:Value}(h1:Rep c w u x)(h2:Rep c w v y)(hk:eqK true ls neg x y H K)(xo yo:Operand) :
  ∃ r,(do eqGuard (if neg then .neq else .eql) t xo yo u v;binOp (if neg then .neq else .eql) t u v).run P w = .ok r w∧Post G c H w K r w:=by
 unfold eqTy at ht
 split at ht
 ·rename_i fs hu
  split at ht
  ·rename_i hcond
   have hf:P.underlying t=some (.struct (P.fieldsOf t)):=by unfold Program.fieldsOf;rw[hu]
   have hfe:P.fieldsOf t=fs:=by unfold Program.fieldsOf;rw[hu]
   have hx:∃ cs ds,x = .agg cs∧y = .agg ds:=by
    unfold eqK at hk
    split at hk
    ·exact⟨_,_,rfl,rfl⟩
    ·contradiction
    ·exact hk.elim
   obtain⟨cs,ds,rfl,rfl⟩:=hx
   simp only[eqK]at hk
   split at hk
   ·rename_i r hr
    cases h1 with
    | agg vs _ hl1 h11 h12=>
     cases h2 with
     | agg us _ hl2 h21 h22=>
      have hcx:Cells c w vs cs:=⟨hl1,h11,h12⟩
      have hcy:Cells c w us ds:=⟨hl2,h21,h22⟩
      have hrun:=eqFields_ok (P:=P) 9998 hcx hcy fs.toList 0 ls r ht (by simpa using hr)
      have heq:(Op.equalIn 10000 t (.agg vs.toArray) (.agg us.toArray)).run P w = .ok r w:=by
       rw[run_equalIn_struct w 9999 t vs.toArray us.toArray hf hcond.1,hfe]
       exact hrun
      cases neg
      ·simp only[Bool.false_eq_true,if_false,Sem.run_bind,run_eqGuard_agg w .eql t xo yo vs.toArray us.toArray hcond.2,Result.andThen_ok,run_eql_struct,heq]
       exact⟨_,rfl,.val h (by simpa using hk)⟩
      ·simp only[if_true,Sem.run_bind,run_eqGuard_agg w .neq t xo yo vs.toArray us.toArray hcond.2,Result.andThen_ok,run_neq_struct,heq]
       exact⟨_,rfl,.val h (by simpa using hk)⟩
   ·exact hk.elim
  ·cases ht
 ·cases ht
theorem ok_eqBool(h:HOK G c H w){t:TypeId}(hu:P.underlying t=some .bool)(neg:Bool){x y:D}{u v:Value}(h1:Rep c w u x)(h2:Rep c w v y)(hk:eqK false [.bool] neg x y H K)(xo yo:Operand) :
  ∃ r,(do eqGuard (if neg then .neq else .eql) t xo yo u v;binOp (if neg then .neq else .eql) t u v).run P w = .ok r w∧Post G c H w K r w:=by
 simp only[eqK]at hk
 split at hk
 ·rename_i r hr
  simp only[cellsEq]at hr
  split at hr
  ·rename_i p q hp hq
   cases hq
   cases hr
   unfold cellEq at hp
   split at hp
   ·contradiction
   ·cases h1;cases h2
    cases hp
    rename_i b b' _
    have heq:=run_equalIn_bool' (P:=P) w 9999 t b b' hu
    have hop:Op.equal t (.bool b) (.bool b')=Op.equalIn 10000 t (.bool b) (.bool b'):=rfl
    cases neg
    ·exact⟨_,by simp[eqGuard,binOp,hop,heq]<;>rfl,.val h (by simpa using hk)⟩
    ·exact⟨_,by simp[eqGuard,binOp,hop,heq]<;>rfl,.val h (by simpa using hk)⟩
   ·contradiction
   ·cases hp
  ·cases hr
 ·exact hk.elim
theorem run_enters{f:FuncId}(h:entersB P f=true)(args:Array Value)(w:World):(callFunc f args).run P w = .ok (.enter f args) w:=by
 unfold entersB at h
 split at h
 ·rename_i fn hf
  simp only[Bool.and_eq_true,bne_iff_ne,ne_eq]at h
  have hb:fn.body.isNone=false:=by cases hb:fn.body<;>simp[hb]at h ⊢
  simp[callFunc,hf,h.1]
  intro e
  rw[e]at hb
  cases hb
 ·cases h
end
end Go.AL
namespace Go.AL
open Go
section
variable{P:Program}{G:GT}{c:Ctx}{H:Heap}{w:World}{K:Kont}{env:EnvF}{a:Act}
def Yld(r:Result Next)(v:Value)(w':World):Prop:=r = .ok (.value v) w'∨(r = .ok .skip w'∧v=undef)
theorem yld_v{s:Sem Value}{v:Value}{w':World}(h:s.run P w = .ok v w'):Yld ((do pure (.value (← s)):Sem Next).run P w) v w':=.inl (by simp[h])
theorem yld_u{s:Sem Unit}{w':World}(h:s.run P w = .ok () w'):Yld ((do s;pure .skip:Sem Next).run P w) undef w':=.inr ⟨by simp[h],rfl⟩
theorem ok_conv(h:HOK G c H w){s d:TypeId}{sd:TypeDesc}{k:IntKind}(hs:P.underlying s=some sd)(hd:P.underlying d=some (.int k)){x:D}{u:Value}(h1:Rep c w u x)
  (hk:convK k x H K):∃ r,(convert s d u).run P w = .ok r w∧Post G c H w K r w:=by
 unfold convK at hk
 split at hk
 ·rename_i k' n
  cases h1
  have hik:P.intKind d=k:=by simp[Program.intKind,hd]
  have:=run_convert_int (P:=P) w s d k' n (by rw[hs];rfl) (by rw[hik];exact hd)
  rw[hik]at this
  exact⟨_,this,.val h hk⟩
 ·exact hk.elim
theorem ok_nilck(h:HOK G c H w){o:Oper}{x:Operand}(ho:o.op = .nilCheck x){d:D}(h1:Rep c w (a.eval x) d)
  (hk:nilckK d H K):∃ v w',Yld ((execOp a.eval o).run P w) v w'∧Post G c H w K v w':=by
 have key:∀ v,a.eval x=v→(match v with | .pointer (some _)=>True | .func (.func _) _ _=>True | .func (.yield _) _ _=>True|_=>False)→Yld ((execOp a.eval o).run P w) v w:=by
  intro v hv hm
  refine .inl ?_
  simp only[execOp,ho,hv]
  split at hm<;>simp_all
 generalize hv:a.eval x=v at h1
 unfold nilckK at hk
 split at hk
 ·cases h1 with
  | ptr _ _ _ L hι hvt=>exact⟨_,w,key _ hv trivial,.plain h hk (.ptr _ _ _ L hι hvt)⟩
 ·obtain⟨b,p,e,hF,hc⟩:=cellsAt_fptr h1
  subst e
  exact⟨_,w,key _ hv trivial,.plain h hk h1⟩
 ·cases h1 with
  | fn f fs cs df dc e1 e2 e3 e4=>exact⟨_,w,key _ hv trivial,.plain h hk (.fn _ fs cs _ _ e1 e2 e3 e4)⟩
 ·cases h1 with
  | yld _ L hι hvt=>exact⟨_,w,key _ hv trivial,.plain h hk (.yld _ L hι hvt)⟩
 ·exact hk.elim
theorem rep_list{l:Array Operand}{xs:List D}(h:RepL c w (l.toList.map a.eval) xs):∃ vs:List Value,l.map a.eval=vs.toArray∧RepL c w vs xs:=
 ⟨_,by cases l;simp,h⟩
theorem run_call{o:Oper}{cl:Call}(ho:o.op = .call cl){b:Builtin}(hb:cl.callee = .builtin b):(execOp a.eval o).run P w=(builtin b cl.argTypes o.type (cl.args.map fun | .const _=>true|_=>false) (cl.args.map a.eval)).run P w:=by
 simp only[execOp,ho,resolve,hb,Sem.run_bind,Sem.run_pure,Result.andThen_ok,invoke]
 rfl
theorem plain_ok(h:HOK G c H w)(he:RepEnv c w env a){al:Al}(hal:AlOK H al){o:Oper}{io:IOp}(hc:compileOp P G o=some io)(hk:aop env H al K io) :
  ∃ v w',Yld ((execOp a.eval o).run P w) v w'∧Post G c H w K v w':=by
 unfold compileOp at hc
 cases ho:o.op with
 | move x=>
  simp only[ho,Option.bind_eq_bind,Option.bind_eq_some_iff,Option.pure_def,Option.some.injEq]at hc
  obtain⟨X,hX,rfl⟩:=hc
  exact⟨_,w,.inl (by simp only[execOp,ho];rfl),.plain h hk (cX_ok h he hX)⟩
 | assign x=>
  simp only[ho,Option.bind_eq_bind,Option.bind_eq_some_iff,Option.pure_def,Option.some.injEq]at hc
  obtain⟨X,hX,rfl⟩:=hc
  exact⟨_,w,.inl (by simp only[execOp,ho];rfl),.plain h hk (cX_ok h he hX)⟩
 | pick x y z=>
  simp only[ho,Option.bind_eq_bind,Option.bind_eq_some_iff,Option.pure_def,Option.some.injEq]at hc
  obtain⟨X,hX,Y,hY,Z,hZ,rfl⟩:=hc
  obtain⟨b,hb,hp⟩:=ok_pick h (cX_ok h he hX) (cX_ok h he hY) (cX_ok h he hZ) hk
  exact⟨_,w,.inl (by simp[execOp,ho,hb];rfl),hp⟩
 | box e x=>
  simp only[ho,Option.bind_eq_bind,Option.bind_eq_some_iff,Option.pure_def,Option.some.injEq]at hc
  obtain⟨X,hX,rfl⟩:=hc
  obtain⟨r,w',hr,hp⟩:=ok_box (P:=P) h hal e (cX_ok h he hX) hk
  exact⟨r,w',by simp only[execOp,ho];exact yld_v hr,hp⟩
 | alloc e=>
  simp only[ho,Option.bind_eq_bind,Option.bind_eq_some_iff,Option.pure_def,Option.some.injEq]at hc
  obtain⟨z,hz,rfl⟩:=hc
  obtain⟨r,w',hr,hp⟩:=ok_alloc (P:=P) h hal hz hk
  exact⟨r,w',by simp only[execOp,ho];exact yld_v hr,hp⟩
 | build t ps=>
  simp only[ho,Option.bind_eq_bind,Option.bind_eq_some_iff]at hc
  obtain⟨z,hz,l,hl,hc⟩:=hc
  split at hc
  ·rename_i fs hu
   split at hc
   ·rename_i hf
    simp only[Option.bind_eq_some_iff,Option.pure_def,Option.some.injEq]at hc
    obtain⟨qs,hq,rfl⟩:=hc
    obtain⟨r,hr,hp⟩:=ok_build h he hz hl hu hf hq hk
    exact⟨r,w,by simp only[execOp,ho];exact yld_v hr,hp⟩
   ·cases hc
  ·rename_i n e hu
   simp only[Option.bind_eq_some_iff,Option.pure_def,Option.some.injEq]at hc
   obtain⟨sz,hs,rfl⟩:=hc
   obtain⟨r,hr,hp⟩:=ok_buildArr h he hz hl hu hs hk
   exact⟨r,w,by simp only[execOp,ho];exact yld_v hr,hp⟩
  ·cases hc
 | buildSlice t n ps=>
  simp only[ho,Option.bind_eq_bind,Option.bind_eq_some_iff]at hc
  obtain⟨td,hu,hc⟩:=hc
  split at hc
  ·rename_i e
   simp only[Option.bind_eq_some_iff]at hc
   obtain⟨z,hz,sz,hs,l,hl,hc⟩:=hc
   split at hc
   ·rename_i hcond
    cases hc
    obtain⟨r,w',hr,hp⟩:=ok_buildSlice (P:=P) h hal he hu hz hs hl hcond.1 hcond.2.1 hcond.2.2 hk
    exact⟨r,w',by simp only[execOp,ho];exact yld_v hr,hp⟩
   ·cases hc
  ·cases hc
 | load t x=>
  simp only[ho,Option.bind_eq_bind,Option.bind_eq_some_iff]at hc
  obtain⟨X,hX,n,hn,b,hb,hc⟩:=hc
  cases b
  ·cases hc
   obtain⟨v,hv,hp⟩:=ok_ld1 h hb (cX_ok h he hX) hk
   exact⟨v,w,by simp only[execOp,ho];exact yld_v hv,hp⟩
  ·cases hc
   obtain⟨v,hv,hp⟩:=ok_ldN h hb hn (cX_ok h he hX) hk
   exact⟨v,w,by simp only[execOp,ho];exact yld_v hv,hp⟩
 | store t x y=>
  simp only[ho,Option.bind_eq_bind,Option.bind_eq_some_iff]at hc
  obtain⟨X,hX,Y,hY,n,hn,b,hb,hc⟩:=hc
  cases b
  ·simp only[Bool.false_eq_true,if_false]at hc
   split at hc
   ·rename_i e
    subst e
    cases hc
    obtain⟨w',hv,hp⟩:=ok_st1 h hn (cX_ok h he hX) (cX_ok h he hY) hk
    exact⟨_,w',by simp only[execOp,ho];exact yld_u hv,hp⟩
   ·cases hc
  ·cases hc
   obtain⟨w',hv,hp⟩:=ok_stN h hn (cX_ok h he hX) (cX_ok h he hY) hk
   exact⟨_,w',by simp only[execOp,ho];exact yld_u hv,hp⟩
 | nilCheck x=>
  simp only[ho,Option.bind_eq_bind,Option.bind_eq_some_iff,Option.pure_def,Option.some.injEq]at hc
  obtain⟨X,hX,rfl⟩:=hc
  exact ok_nilck h ho (cX_ok h he hX) hk
 | binOp op t x y yt=>
  simp only[ho,Option.bind_eq_bind,Option.bind_eq_some_iff]at hc
  obtain⟨X,hX,Y,hY,hc⟩:=hc
  have r1:=cX_ok h he hX
  have r2:=cX_ok h he hY
  split at hc
  ·split at hc
   ·rename_i hb
    cases hc
    obtain⟨v,hv,hp⟩:=ok_eqBool (P:=P) h (by unfold boolT at hb;split at hb<;>first|assumption|cases hb) false r1 r2 hk x y
    exact⟨v,w,by simp only[execOp,ho];exact yld_v hv,hp⟩
   ·split at hc
    ·cases hc
     obtain⟨v,hv,hp⟩:=ok_bin (P:=P) h r1 r2 hk t x y
     exact⟨v,w,by simp only[execOp,ho];exact yld_v hv,hp⟩
    ·simp only[Option.bind_eq_some_iff,Option.pure_def,Option.some.injEq]at hc
     obtain⟨ls,hls,rfl⟩:=hc
     obtain⟨v,hv,hp⟩:=ok_eqS (P:=P) h hls false r1 r2 hk x y
     exact⟨v,w,by simp only[execOp,ho];exact yld_v hv,hp⟩
  ·split at hc
   ·rename_i hb
    cases hc
    obtain⟨v,hv,hp⟩:=ok_eqBool (P:=P) h (by unfold boolT at hb;split at hb<;>first|assumption|cases hb) true r1 r2 hk x y
    exact⟨v,w,by simp only[execOp,ho];exact yld_v hv,hp⟩
   ·split at hc
    ·cases hc
     obtain⟨v,hv,hp⟩:=ok_bin (P:=P) h r1 r2 hk t x y
     exact⟨v,w,by simp only[execOp,ho];exact yld_v hv,hp⟩
    ·simp only[Option.bind_eq_some_iff,Option.pure_def,Option.some.injEq]at hc
     obtain⟨ls,hls,rfl⟩:=hc
     obtain⟨v,hv,hp⟩:=ok_eqS (P:=P) h hls true r1 r2 hk x y
     exact⟨v,w,by simp only[execOp,ho];exact yld_v hv,hp⟩
  ·cases hc
   obtain⟨v,hv,hp⟩:=ok_bin (P:=P) h r1 r2 hk t x y
   exact⟨v,w,by simp only[execOp,ho];exact yld_v hv,hp⟩
 | unOp op t x=>
  simp only[ho,Option.bind_eq_bind,Option.bind_eq_some_iff,Option.pure_def,Option.some.injEq]at hc
  obtain⟨X,hX,rfl⟩:=hc
  obtain⟨v,hv,hp⟩:=ok_un (P:=P) h (cX_ok h he hX) hk
  exact⟨v,w,by simp only[execOp,ho];exact yld_v hv,hp⟩
 | convert s d x=>
  simp only[ho,Option.bind_eq_bind,Option.bind_eq_some_iff]at hc
  obtain⟨X,hX,sd,hs,hc⟩:=hc
  split at hc
  ·rename_i k hd
   cases hc
   obtain⟨v,hv,hp⟩:=ok_conv (P:=P) h hs hd (cX_ok h he hX) hk
   exact⟨v,w,by simp only[execOp,ho];exact yld_v hv,hp⟩
  ·rename_i hd
   simp only[Option.bind_eq_some_iff]at hc
   obtain⟨sd2,hs2,hc⟩:=hc
   split at hc
   ·rename_i e
    simp only[Option.bind_eq_some_iff]at hc
    obtain⟨ed,hed,hc⟩:=hc
    split at hc
    ·cases hc
     obtain⟨v,hv,hp⟩:=ok_b2s (P:=P) h hs2 hed hd (cX_ok h he hX) hk
     exact⟨v,w,by simp only[execOp,ho];exact yld_v hv,hp⟩
    ·cases hc
   ·cases hc
  ·cases hc
 | makeFunc f first cap=>
  simp only[ho,Option.bind_eq_bind,Option.bind_eq_some_iff,Option.pure_def,Option.some.injEq]at hc
  obtain⟨X,hX,Y,hY,rfl⟩:=hc
  exact⟨_,w,.inl (by simp[execOp,ho,Instr.makeFunc]),ok_mkfn h he hX hY hk⟩
 | makeMap t r=>
  cases r with
  | some r=>simp[ho]at hc
  | none=>
   simp only[ho,Option.bind_eq_bind,Option.bind_eq_some_iff]at hc
   obtain⟨td,hu,hc⟩:=hc
   split at hc
   ·simp only[Option.bind_eq_some_iff,Option.pure_def,Option.some.injEq]at hc
    obtain⟨kk,hkk,rfl⟩:=hc
    obtain⟨v,w',hv,hp⟩:=ok_mkmap (P:=P) h hal t kk hk
    exact⟨v,w',by simp only[execOp,ho];exact yld_v hv,hp⟩
   ·cases hc
 | lookup t x i ok=>
  simp only[ho,Option.bind_eq_bind,Option.bind_eq_some_iff]at hc
  obtain⟨td,hu,hc⟩:=hc
  split at hc
  ·simp only[Option.bind_eq_some_iff,Option.pure_def,Option.some.injEq]at hc
   obtain⟨z,hz,kk,hkk,X,hX,Y,hY,rfl⟩:=hc
   obtain⟨v,hv,hp⟩:=ok_lookup (P:=P) h hu hkk hz ok (cX_ok h he hX) (cX_ok h he hY) hk
   exact⟨v,w,by simp only[execOp,ho];exact yld_v hv,hp⟩
  ·cases hc
 | mapUpdate t m k x=>
  simp only[ho,Option.bind_eq_bind,Option.bind_eq_some_iff]at hc
  obtain⟨td,hu,hc⟩:=hc
  split at hc
  ·simp only[Option.bind_eq_some_iff,Option.pure_def,Option.some.injEq]at hc
   obtain⟨kk,hkk,X,hX,Y,hY,Z,hZ,rfl⟩:=hc
   obtain⟨w',hv,hp⟩:=ok_mapUpd (P:=P) h hu hkk (cX_ok h he hX) (cX_ok h he hY) (cX_ok h he hZ) hk
   exact⟨_,w',by simp only[execOp,ho];exact yld_u hv,hp⟩
  ·cases hc
 | insert t m k x=>
  simp only[ho,Option.bind_eq_bind,Option.bind_eq_some_iff]at hc
  obtain⟨td,hu,hc⟩:=hc
  split at hc
  ·simp only[Option.bind_eq_some_iff,Option.pure_def,Option.some.injEq]at hc
   obtain⟨kk,hkk,X,hX,Y,hY,Z,hZ,rfl⟩:=hc
   obtain⟨w',hv,hp⟩:=ok_mapUpd (P:=P) h hu hkk (cX_ok h he hX) (cX_ok h he hY) (cX_ok h he hZ) hk
   exact⟨_,w',by simp only[execOp,ho];exact yld_u hv,hp⟩
  ·cases hc
 | makeSlice t l m=>
  simp only[ho,Option.bind_eq_bind,Option.bind_eq_some_iff]at hc
  obtain⟨td,hu,hc⟩:=hc
  split at hc
  ·simp only[Option.bind_eq_some_iff]at hc
   obtain⟨z,hz,i,hi,hc⟩:=hc
   split at hc
   ·rename_i hcond
    simp only[Option.bind_eq_some_iff,Option.pure_def,Option.some.injEq]at hc
    obtain⟨X,hX,Y,hY,rfl⟩:=hc
    obtain⟨v,w',hv,hp⟩:=ok_mksl (P:=P) h hal hu hi hz hcond.1 hcond.2 (cX_ok h he hX) (cX_ok h he hY) hk
    exact⟨_,w',by simp only[execOp,ho];exact yld_v hv,hp⟩
   ·cases hc
  ·cases hc
 | slice t x lo hi mx=>
  cases mx with
  | some r=>simp[ho]at hc
  | none=>
   simp only[ho,Option.bind_eq_bind,Option.bind_eq_some_iff]at hc
   obtain⟨X,hX,L,hL,M,hM,hc⟩:=hc
   have r1:=cX_ok h he hX
   split at hc
   ·rename_i e hu
    simp only[Option.bind_eq_some_iff,Option.pure_def,Option.some.injEq]at hc
    obtain⟨n,hn,rfl⟩:=hc
    obtain⟨v,hv,hp⟩:=ok_slc_slice (P:=P) h he hu hn hL hM r1 hk
    exact⟨v,w,by simp only[execOp,ho];exact yld_v hv,hp⟩
   ·rename_i hu
    cases hc
    have hs:∃ s,ev env X = .val (.string s):=by
     simp only[aop]at hk
     unfold slcSK at hk
     split at hk
     ·rename_i s e;exact⟨s,e⟩
     ·exact hk.elim
    obtain⟨s,hs⟩:=hs
    simp only[aop]at hk
    rw[hs]at hk r1
    have hv0:a.eval x = .string s:=by
     generalize a.eval x=u at r1
     cases r1;rfl
    obtain⟨v,hv,hp⟩:=ok_slc_str (P:=P) h he hu hL hM hk
    exact⟨v,w,by simp only[execOp,ho,hv0];exact yld_v hv,hp⟩
   ·cases hc
 | fieldAddr t x f=>
  simp only[ho,Option.bind_eq_bind,Option.bind_eq_some_iff]at hc
  obtain⟨X,hX,td,hu,hc⟩:=hc
  split at hc
  ·simp only[Option.bind_eq_some_iff]at hc
   obtain⟨fd,hf,n,hn,hc⟩:=hc
   split at hc
   ·rename_i hpos
    cases hc
    obtain⟨v,hv,hp⟩:=ok_fieldAddr (P:=P) h hu hf hn hpos (cX_ok h he hX) hk
    exact⟨v,w,by simp only[execOp,ho];exact yld_v hv,hp⟩
   ·cases hc
  ·cases hc
 | field t x f=>
  simp only[ho,Option.bind_eq_bind,Option.bind_eq_some_iff]at hc
  obtain⟨X,hX,td,hu,hc⟩:=hc
  split at hc
  ·simp only[Option.bind_eq_some_iff,Option.pure_def,Option.some.injEq]at hc
   obtain⟨fd,hf,n,hn,b,hb,rfl⟩:=hc
   obtain⟨v,hv,hp⟩:=ok_field (P:=P) h hu hf hb hn (cX_ok h he hX) hk
   exact⟨v,w,by simp only[execOp,ho];exact yld_v hv,hp⟩
  ·cases hc
 | indexAddr t x i=>
  simp only[ho,Option.bind_eq_bind,Option.bind_eq_some_iff]at hc
  obtain⟨X,hX,Y,hY,hc⟩:=hc
  split at hc
  ·rename_i e hu
   simp only[Option.bind_eq_some_iff]at hc
   obtain⟨n,hn,hc⟩:=hc
   split at hc
   ·rename_i hpos
    cases hc
    obtain⟨v,hv,hp⟩:=ok_idxA (P:=P) h hu hn hpos (cX_ok h he hX) (cX_ok h he hY) hk
    exact⟨v,w,by simp only[execOp,ho];exact yld_v hv,hp⟩
   ·cases hc
  ·rename_i m e hu
   simp only[Option.bind_eq_some_iff,Option.pure_def,Option.some.injEq]at hc
   obtain⟨n,hn,rfl⟩:=hc
   obtain⟨v,hv,hp⟩:=ok_idxArr (P:=P) h hu hn (cX_ok h he hX) (cX_ok h he hY) hk
   exact⟨v,w,by simp only[execOp,ho];exact yld_v hv,hp⟩
  ·cases hc
 | index t x i=>
  simp only[ho,Option.bind_eq_bind,Option.bind_eq_some_iff]at hc
  obtain⟨X,hX,Y,hY,hc⟩:=hc
  split at hc
  ·rename_i m e hu
   simp only[Option.bind_eq_some_iff,Option.pure_def,Option.some.injEq]at hc
   obtain⟨n,hn,b,hb,rfl⟩:=hc
   obtain⟨v,hv,hp⟩:=ok_idx (P:=P) h hu hn hb (cX_ok h he hX) (cX_ok h he hY) hk
   exact⟨v,w,by simp only[execOp,ho];exact yld_v hv,hp⟩
  ·rename_i hu
   cases hc
   obtain⟨v,hv,hp⟩:=ok_idxStr (P:=P) h hu (cX_ok h he hX) (cX_ok h he hY) hk
   exact⟨v,w,by simp only[execOp,ho];exact yld_v hv,hp⟩
  ·cases hc
 | extract x i=>
  simp only[ho,Option.bind_eq_bind,Option.bind_eq_some_iff,Option.pure_def,Option.some.injEq]at hc
  obtain⟨X,hX,rfl⟩:=hc
  obtain⟨v,hv,hp⟩:=ok_ext (P:=P) h (cX_ok h he hX) hk
  exact⟨v,w,by simp only[execOp,ho];exact yld_v hv,hp⟩
 | call cl=>
  simp only[ho,Option.bind_eq_bind,Option.bind_eq_some_iff]at hc
  obtain⟨args,hargs,hc⟩:=hc
  have hrl:=cXs_ok h he cl.args.toList hargs
  split at hc
  ·split at hc
   ·cases hc;split at hk<;>exact(show False from hk).elim
   ·cases hc
  ·simp only[Option.bind_eq_some_iff,Option.pure_def,Option.some.injEq]at hc
   obtain⟨X,hX,rfl⟩:=hc
   exact(show False from hk).elim
  ·rename_i hcal
   split at hc
   ·rename_i t u x y hat
    have hats:cl.argTypes = #[t,u]:=by rw[← Array.toArray_toList (xs:=cl.argTypes),hat]
    obtain⟨vs,hvs,hrl⟩:=rep_list hrl
    simp only[List.map_cons,List.map_nil]at hrl
    cases hrl with|cons r1 hrl=>cases hrl with|cons r2 hrl=>cases hrl with|nil=>
    simp only[Option.bind_eq_some_iff]at hc
    obtain⟨td,hu,hc⟩:=hc
    split at hc
    ·simp only[Option.bind_eq_some_iff]at hc
     obtain⟨i,hi,z,hz,ud,hu',hc⟩:=hc
     split at hc
     ·split at hc
      ·rename_i hcond
       cases hc
       obtain⟨v,w',hv,hp⟩:=ok_app (P:=P) (ty:=o.type) h hal hu ⟨_,hu'⟩ hi hz hcond.1 hcond.2 r1 r2 hk
       exact⟨v,w',by rw[run_call ho hcal,hvs,hats];exact yld_v hv,hp⟩
      ·cases hc
     ·cases hc
    ·cases hc
   ·cases hc
  ·rename_i hcal
   split at hc
   ·rename_i t u x y hat
    have hats:cl.argTypes = #[t,u]:=by rw[← Array.toArray_toList (xs:=cl.argTypes),hat]
    obtain⟨vs,hvs,hrl⟩:=rep_list hrl
    simp only[List.map_cons,List.map_nil]at hrl
    cases hrl with|cons r1 hrl=>cases hrl with|cons r2 hrl=>cases hrl with|nil=>
    simp only[Option.bind_eq_some_iff]at hc
    obtain⟨td,hu,hc⟩:=hc
    split at hc
    ·simp only[Option.bind_eq_some_iff]at hc
     obtain⟨ud,hu',hc⟩:=hc
     split at hc
     ·simp only[Option.bind_eq_some_iff]at hc
      obtain⟨n,hn,hc⟩:=hc
      split at hc
      ·rename_i hpos
       cases hc
       obtain⟨v,w',hv,hp⟩:=ok_copy (P:=P) (u:=u) (ty:=o.type) h hu hn hpos r1 r2 hk
       exact⟨v,w',by rw[run_call ho hcal,hvs,hats];exact yld_v hv,hp⟩
      ·cases hc
     ·cases hc
    ·cases hc
   ·cases hc
  ·rename_i hcal
   split at hc
   ·rename_i t x hat
    have hats:cl.argTypes = #[t]:=by rw[← Array.toArray_toList (xs:=cl.argTypes),hat]
    obtain⟨vs,hvs,hrl⟩:=rep_list hrl
    simp only[List.map_cons,List.map_nil]at hrl
    cases hrl with|cons r1 hrl=>cases hrl with|nil=>
    split at hc
    ·rename_i e hu
     cases hc
     obtain⟨v,hv,hp⟩:=ok_len (P:=P) (ty:=o.type) (k:=.slice) h hu ⟨e,rfl⟩ r1 hk
     exact⟨v,w,by rw[run_call ho hcal,hvs,hats];exact yld_v hv,hp⟩
    ·rename_i hu
     cases hc
     obtain⟨v,hv,hp⟩:=ok_len (P:=P) (ty:=o.type) (k:=.string) h hu rfl r1 hk
     exact⟨v,w,by rw[run_call ho hcal,hvs,hats];exact yld_v hv,hp⟩
    ·rename_i k e hu
     cases hc
     obtain⟨v,hv,hp⟩:=ok_len (P:=P) (ty:=o.type) (k:=.map) h hu ⟨k,e,rfl⟩ r1 hk
     exact⟨v,w,by rw[run_call ho hcal,hvs,hats];exact yld_v hv,hp⟩
    ·cases hc
   ·cases hc
  ·rename_i hcal
   cases hc
   obtain⟨v,hv,hp⟩:=ok_minmax (P:=P) h he hargs true cl.argTypes o.type hk
   exact⟨v,w,by rw[run_call ho hcal];exact yld_v (by simpa using hv),hp⟩
  ·rename_i hcal
   cases hc
   obtain⟨v,hv,hp⟩:=ok_minmax (P:=P) h he hargs false cl.argTypes o.type hk
   exact⟨v,w,by rw[run_call ho hcal];exact yld_v (by simpa using hv),hp⟩
  ·cases hc
 | _=>simp[ho]at hc
end
end Go.AL
