/- Part 4 of the proof of skewer.skewerlaw15.TableRefuses. -/
import Derived.Test.YtnaefnajkaohgaaGreatDoorA03
import Derived.Laws.IdiomRangeMap
import Derived.RangeFuncLeaves
import Derived.OwnWalkIn
set_option linter.all false
namespace Go.AL
open Go
def constNil:Operand→Bool
 | .const (.slice none 0 0)=>true
 | _=>false
def sliceT(P:Program)(t:TypeId):Bool:=match P.underlying t with
 | some (.slice _)=>true
 | _=>false
def compileSp(P:Program)(G:GT)(o:Oper):Option IOp:=
 match o.op with
 | .binOp .eql t x y _=>if sliceT P t=true∧constNil y=true then(cX G x).map (.nilS false)else none
 | .binOp .neq t x y _=>if sliceT P t=true∧constNil y=true then(cX G x).map (.nilS true)else none
 | .range t x=>match P.underlying t,cX G x with
  | some .string,some a=>some (.rangeS a)
  | some (.map _ _),some a=>some (.rangeM a)
  | _,_=>none
 | .next x true=>(cX G x).map .nextS
 | .next x false=>(cX G x).map .nextM
 | .entry x=>(cX G x).map .entry
 | .call c=>match c.callee,c.argTypes.toList,c.args.toList with
  | .builtin .cap,[t],[x]=>if sliceT P t then(cX G x).map .capE else none
  | .builtin .clear,[t],[x]=>match P.underlying t with
   | some (.slice e)=>match zeroT P e,P.info? e,cX G x with
    | some z,some i,some a=>if z.length=i.size∧0<i.size then some (.clr i.size z a)else none
    | _,_,_=>none
   | _=>none
  | .builtin .append,[t,u],[x,y]=>match P.underlying t,P.underlying u with
   | some (.slice e),some (.int .i64)=>match zeroT P e,P.info? e,cX G x,cX G y with
    | some z,some i,some a,some b=>if z.length=i.size∧0<i.size then some (.appZ e i.size i.bytes z a b)else none
    | _,_,_,_=>none
   | _,_=>none
  | _,_,_=>none
 | _=>none
def nilSO(neg:Bool):D→Option D
 | .emp=>some (.b !neg)
 | .sl _ (_::_)=>some (.b neg)
 | .osl _ _ _ _ (_+1)=>some (.b neg)
 | _=>none
def appZO(t sz bytes:Nat)(z:List D)(x n:D)(vn:Nat):R:=
 match x,n with
 | .emp,.val (.int .i64 m)=>if 0<m∧leK (m*bytes) 140737488355328∧leK m 9223372036854775807 then some (.osl vn 0 sz 0 m.toNat,.new (.row t 0 (List.replicate m.toNat z).flatten))else none
 | _,_=>none
def clrO(sz:Nat)(z:List D)(x:D)(H:Heap):R:=
 match x with
 | .emp=>some (.any,.no)
 | .osl v g sz' off len=>match rowAt H v g with
  | some (t,cs)=>if sz'=sz∧(off+len)*sz≤cs.length then some (.any,.obj v (.row t g (cs.take (off*sz)++(List.replicate len z).flatten++cs.drop ((off+len)*sz))))else none
  | none=>none
 | _=>none
def nextSO(x:D)(H:Heap):R:=
 match x with
 | .ptr v 0 0=>match H[v]? with
  | some (.siter s p)=>if p<s.size then some (.tup [.b true,.i p,.val (.int .i32 (Utf8.decode s p).1)],.obj v (.siter s (p+(Utf8.decode s p).2)))else some (.tup [.b false],.no)
  | _=>none
 | _=>none
def rangeMO(x:D)(H:Heap)(vn:Nat):R:=
 match x with
 | .omap m=>match mapAt H m with
  | some (_,es)=>some (.ptr vn 0 0,.new (.miter (.omap m) es.length []))
  | none=>none
 | _=>none
def entryO(x:D)(H:Heap):Option D:=
 match x with
 | .ptr v 0 0=>match H[v]? with
  | some (.miter (.omap m) since seen)=>match mapAt H m,seen.getLast? with
   | some (_,es),some i=>match es[i]? with
    | some (k,d)=>if es.length=since then some (.tup [.val k,d])else none
    | none=>none
   | _,_=>none
  | _=>none
 | _=>none
def sopO(env:EnvF)(H:Heap)(n:Nat):IOp→R
 | .nilS neg x=>lift (nilSO neg (ev env x))
 | .capE x=>match ev env x with
  | .emp=>some (.i 0,.no)
  | _=>none
 | .appZ t sz bytes z x m=>appZO t sz bytes z (ev env x) (ev env m) n
 | .clr sz z x=>clrO sz z (ev env x) H
 | .rangeS x=>match ev env x with
  | .val (.string s)=>some (.ptr n 0 0,.new (.siter s 0))
  | _=>none
 | .nextS x=>nextSO (ev env x) H
 | .rangeM x=>rangeMO (ev env x) H n
 | .entry x=>lift (entryO (ev env x) H)
 | _=>none
def special:IOp→Bool
 | .nilS .. | .capE .. | .appZ .. | .clr .. | .rangeS .. | .nextS .. | .rangeM .. | .nextM .. | .entry .. => true
 | _=>false
theorem special_aop{op:IOp}(h:special op=true)(f:EnvF)(H:Heap)(n:Nat):aopO f H n op=none:=by
 cases op<;>first|(cases h;done)|rfl
theorem special_callee{op:IOp}(h:special op=true)(f:EnvF):calleeOf f op=none:=by
 cases op<;>first|(cases h;done)|rfl
theorem compileSp_special{P:Program}{G:GT}{o:Oper}{io:IOp}(h:compileSp P G o=some io):special io=true:=by
 unfold compileSp at h
 repeat' split at h
 all_goals first|(cases h;done)|(simp only[Option.map_eq_some_iff]at h;obtain⟨_,_,rfl⟩:=h;rfl)|(cases h;rfl)
section
variable{P:Program}{G:GT}{c:Ctx}{H:Heap}{w:World}{env:EnvF}{a:Act}
abbrev KO(H:Heap)(al:Al)(d:D)(δ:Dl):Kont:=fun d' H'=>d'=d∧H'=δ.app H al
theorem new_obj(h:HOK G c H w){al:Al}(hal:AlOK H al)(o:Obj)(ob:Ob)(hg:ob.gen=0)(ha:ob.alive=true)
  (hob:(∀ u d,Rep c w u d→Rep (c.set al.1 0 ⟨w.heap.size,0,0,false⟩) (w.alloc o) u d)→(w.alloc o).heap[w.heap.size]? = some o→ObOK (c.set al.1 0 ⟨w.heap.size,0,0,false⟩) (w.alloc o) (some ⟨w.heap.size,0,0,false⟩) ob) :
  HOK G (c.set al.1 0 ⟨w.heap.size,0,0,false⟩) (al.2 ob) (w.alloc o)∧Rep (c.set al.1 0 ⟨w.heap.size,0,0,false⟩) (w.alloc o) (.pointer (some ⟨w.heap.size,0,none⟩)) (.ptr al.1 0 0) ∧
   Step H.length c H w (c.set al.1 0 ⟨w.heap.size,0,0,false⟩) (al.2 ob) (w.alloc o):=by
 have hL:(⟨w.heap.size,0,0,false⟩:Loc).virt=false→w.heap.size≤(⟨w.heap.size,0,0,false⟩:Loc).b∧(⟨w.heap.size,0,0,false⟩:Loc).b<(w.alloc o).heap.size:=fun _=>⟨Nat.le_refl _,by simp⟩
 have ht:=(hal ob).takes
 have hs:=takes_step h ht (Grew.alloc w o) ⟨w.heap.size,0,0,false⟩ hL
 rw[hg]at hs
 have h1:=takes_ok h ht (Grew.alloc w o) ⟨w.heap.size,0,0,false⟩ hL ha (by rw[hg];exact hob (fun u d hd=>hd.step0 h.toHeapOK hs) (heap_alloc_new w o))
 rw[hg]at h1
 exact⟨h1,.ptr (c:=c.set al.1 0 ⟨w.heap.size,0,0,false⟩) al.1 0 0 ⟨w.heap.size,0,0,false⟩ (Ctx.set_same _ _ _ _) rfl,hs⟩
theorem ok_nilS(h:HOK G c H w){t:TypeId}(ht:sliceT P t=true){neg:Bool}{x d:D}{u:Value}(hr:Rep c w u x)(ho:nilSO neg x=some d)(xo yo:Operand) :
  ∃ r,(do eqGuard (if neg then .neq else .eql) t xo yo u (.slice none 0 0);binOp (if neg then .neq else .eql) t u (.slice none 0 0)).run P w = .ok r w∧Rep c w r d:=by
 have htt:∃ e,P.underlying t=some (.slice e):=by
  unfold sliceT at ht
  split at ht
  ·exact⟨_,by assumption⟩
  ·cases ht
 obtain⟨e,hu⟩:=htt
 have heq:∀ (n:Nat) (ad:Option Addr) (len cap:Nat),(Op.equalIn (n+1) t (.slice ad len cap) (.slice none 0 0)).run P w = .ok ad.isNone w:=by
  intro n ad len cap
  cases ad<;>simp[Op.equalIn,run_underlying hu]
 have hop:∀ ad len cap,Op.equal t (.slice ad len cap) (.slice none 0 0)=Op.equalIn (9999+1) t (.slice ad len cap) (.slice none 0 0):=fun _ _ _=>rfl
 have key:∀ (ad:Option Addr) (len cap:Nat),u = .slice ad len cap→(do eqGuard (if neg then .neq else .eql) t xo yo u (.slice none 0 0);binOp (if neg then .neq else .eql) t u (.slice none 0 0)).run P w = .ok (.bool (if neg then !ad.isNone else ad.isNone)) w:=by
  rintro ad len cap rfl
  have h1:=heq 9999 ad len cap
  cases neg<;>simp only[eqGuard,binOp,hop,Bool.false_eq_true,if_false,if_true,Sem.run_bind,Bool.not_true,Sem.run_pure,Result.andThen_ok,h1]
 unfold nilSO at ho
 split at ho
 ·cases ho
  cases hr
  exact⟨_,key none 0 0 rfl,by cases neg<;>exact .val _⟩
 ·cases ho
  cases hr with
  | sl ad len cap sz es g hlen hcap hmax hsz hnil hc hrr=>
   have:ad≠none:=fun e=>by have:=hnil e;simp at hlen;omega
   obtain⟨q,rfl⟩:=Option.ne_none_iff_exists'.1 this
   exact⟨_,key _ _ _ rfl,by cases neg<;>exact .val _⟩
 ·cases ho
  cases hr with
  | osl _ _ _ _ _ cap L hι hv hcap hmax htop=>exact⟨_,key _ _ _ rfl,by cases neg<;>exact .val _⟩
 ·cases ho
theorem ok_cells(h:HOK G c H w){v g o:Nat}{t':TypeId}{cs xs:List D}(hv:H[v]? = some (.row t' g cs)){L:Loc}(hι:c.ι v g=some L)(hvirt:L.virt=false){vs:List Value}(hx:Cells c w vs xs)
  (hfit:o+xs.length≤cs.length):∃ w',(storeCells ⟨L.b,L.base+o,none⟩ vs).run P w = .ok () w'∧HOK G c (H.set v (.row t' g (cs.take o++xs++cs.drop (o+xs.length)))) w'∧Step H.length c H w c (H.set v (.row t' g (cs.take o++xs++cs.drop (o+xs.length)))) w':=by
 obtain⟨arr,h1,h2,h3,h4⟩:=row_at h hv hι hvirt
 have hxl:vs.length=xs.length:=hx.len
 have hst:=run_storeCells_at P L.b (L.base+o) t' vs 0 arr w h1 (by simp;omega) hx.one
 simp only[Nat.add_zero]at hst
 have hw:=write_row h hv hι hvirt h1 (arr.toList.take (L.base+o)++vs++arr.toList.drop (L.base+o+vs.length)).toArray
  (by simp;omega) h2 (cs.take o++xs++cs.drop (o+xs.length)) (by simp;omega) (fun i d hd=>by
   have hsp:=h4.splice hx o
   obtain⟨y,hy,h5,h6⟩:=hsp.get hd
   refine⟨y,?_,h5,h6⟩
   rw[← hy]
   simp only[List.getElem?_toArray]
   have hl1:(List.take (L.base+o) arr.toList).length=L.base+o:=by simp;omega
   have hl2:(List.take o (List.take cs.length (List.drop L.base arr.toList))).length=o:=by simp;omega
   by_cases c1:i<o
   ·rw[List.getElem?_append_left (by simp;omega),List.getElem?_append_left (by rw[hl1];omega),List.getElem?_append_left (by simp;omega),List.getElem?_append_left (by rw[hl2];omega)]
    simp only[List.getElem?_take,List.getElem?_drop]
    rw[if_pos (by omega),if_pos c1,if_pos (by omega)]
   ·by_cases c2:i<o+xs.length
    ·rw[List.getElem?_append_left (by simp;omega),List.getElem?_append_right (by rw[hl1];omega),List.getElem?_append_left (by simp;omega),List.getElem?_append_right (by rw[hl2];omega),hl1,hl2]
     congr 1
     omega
    ·have hd':i<cs.length:=by have:=(List.getElem?_eq_some_iff.1 hd).1;simp at this;omega
     rw[List.getElem?_append_right (by simp;omega),List.getElem?_append_right (by simp;omega)]
     simp only[List.getElem?_drop,List.getElem?_take,List.length_append,hl1,hl2,hxl]
     rw[if_pos (by omega)]
     congr 1
     omega)
 exact⟨_,hst,hw.1,hw.2⟩
theorem ok_clr(h:HOK G c H w){al:Al}{t e ty:TypeId}{i:TypeInfo}{z:List D}(hu:P.underlying t=some (.slice e))(hi:P.info? e=some i)(hz:zeroT P e=some z)(hzl:z.length=i.size)(hpos:0<i.size)
  {x d:D} {δ:Dl} {u:Value} (hr:Rep c w u x) (ho:clrO i.size z x H=some (d,δ)):∃ w',(Builtin.clear_ #[t] ty #[u]).run P w = .ok (.tuple #[]) w'∧Post G c H w (KO H al d δ) (.tuple #[]) w':=by
 unfold clrO at ho
 split at ho
 ·cases ho
  cases hr
  exact⟨w,by simp[Builtin.clear_,run_underlying hu],_,_,c,⟨rfl,rfl⟩,h,.any _,Step.refl _ _ _ _⟩
 ·rename_i v g sz' off len
  split at ho
  ·rename_i t' cs hrow
   split at ho
   ·rename_i hcond
    obtain⟨rfl,hfit⟩:=hcond
    cases ho
    have hv:=rowAt_some hrow
    dsimp only at hv
    obtain⟨zv,hzv,hzi,hzc⟩:=run_zeroValue hz w
    have hzsz:zv.cells.size=i.size:=by have:=(hzc c w).len;simp at this;omega
    have happ:(Dl.obj v (.row t' g (cs.take (off*i.size)++(List.replicate len z).flatten++cs.drop ((off+len)*i.size)))).app H al=H.set v (.row t' g (cs.take (off*i.size)++(List.replicate len z).flatten++cs.drop ((off+len)*i.size))):=rfl
    have hfl:(List.replicate len z).flatten.length=len*i.size:=by simp[hzl]
    have hsame:(.row t' g (cs.take (off*i.size)++(List.replicate 0 z).flatten++cs.drop ((off+0)*i.size)))=Ob.row t' g cs:=by simp
    have hset:H.set v (.row t' g cs)=H:=by
     have hlt:=(List.getElem?_eq_some_iff.1 hv).1
     have hget:=(List.getElem?_eq_some_iff.1 hv).2
     rw[← hget];exact List.set_getElem_self hlt
    cases hr with
    | osl _ _ _ _ _ cap L hι hvirt hcap hmax htop=>
     by_cases hn:len=0
     ·subst hn
      refine⟨w,by simp[Builtin.clear_,run_underlying hu],_,_,c,⟨rfl,rfl⟩,?_,.any _,?_⟩
      ·rw[happ,hsame,hset];exact h
      ·rw[happ,hsame,hset];exact Step.refl _ _ _ _
     ·have hcells:Cells c w (Builtin.zeroCells zv.cells len).toList (List.replicate len z).flatten:=by
       have h1:(Builtin.zeroCells zv.cells len).toList=(List.replicate len zv.cells.toList).flatten:=by
        unfold Builtin.zeroCells
        exact range_mod zv.cells len (by omega)
       rw[h1]
       exact flatten_replicate_cells _ _ hzc len
      obtain⟨w',k1,k2,k3⟩:=ok_cells (P:=P) (o:=off*i.size) h hv hι hvirt hcells (by rw[hfl,← Nat.add_mul];exact hfit)
      rw[hfl,← Nat.add_mul]at k2 k3
      refine⟨w',?_,_,_,c,⟨rfl,rfl⟩,k2,.any _,k3⟩
      obtain⟨len',rfl⟩:=Nat.exists_eq_succ_of_ne_zero hn
      simp[Builtin.clear_,run_underlying hu,hzv,k1]
    | oslz _ _ _ _ L hι ad=>
     refine⟨w,by cases ad<;>simp[Builtin.clear_,run_underlying hu],_,_,c,⟨rfl,rfl⟩,?_,.any _,?_⟩
     ·rw[happ,hsame,hset];exact h
     ·rw[happ,hsame,hset];exact Step.refl _ _ _ _
   ·cases ho
  ·cases ho
 ·cases ho
theorem ok_appZ(h:HOK G c H w){al:Al}(hal:AlOK H al){t u ty e:TypeId}{i:TypeInfo}{z:List D}(ht:P.underlying t=some (.slice e))(hu:P.underlying u=some (.int .i64))(hi:P.info? e=some i)(hz:zeroT P e=some z)(hzl:z.length=i.size)(hpos:0<i.size)
  {x y d:D} {δ:Dl} {ux uy:Value} (h1:Rep c w ux x) (h2:Rep c w uy y) (ho:appZO e i.size i.bytes z x y al.1=some (d,δ)) :
  ∃ r w',(Builtin.append_ #[t,u] ty #[ux,uy]).run P w = .ok r w'∧Post G c H w (KO H al d δ) r w':=by
 unfold appZO at ho
 split at ho
 ·rename_i m
  split at ho
  ·rename_i hcond
   cases ho
   cases h1
   cases h2
   obtain⟨zv,hzv,hzi,hzc⟩:=run_zeroValue hz w
   have hzi':i.zero=some zv:=by simpa[hi]using hzi
   have hzsz:zv.cells.size=i.size:=by have:=(hzc c w).len;simp at this;omega
   obtain⟨n,rfl⟩:∃ n:Nat,m=n:=⟨m.toNat,by omega⟩
   obtain⟨hn0,hby,h63⟩:=hcond
   simp only[leK]at hby h63
   have hn0':0<n:=by omega
   have hby':n*i.bytes≤140737488355328:=by
    have h1:((n*i.bytes:Nat):Int)≤140737488355328:=by rw[Int.natCast_mul];exact hby
    omega
   have h63':n≤9223372036854775807:=by omega
   have hgc:=grownCap_ge w n 0 e
   have hgm:=grownCap_le_maxLen w n 0 e (by unfold maxLen;omega)
   have wn:IntKind.i64.wrap (n:Int)=n:=wrap_i64 (by unfold inI64;omega)
   have hrun:(Builtin.append_ #[t,u] ty #[.slice none 0 0,.int .i64 n]).run P w = .ok (.slice (some ⟨w.heap.size,0,none⟩) n (grownCap w n 0 e))
     (w.drew.alloc (.cells (Builtin.zeroCells zv.cells n++Builtin.zeroCells zv.cells (grownCap w n 0 e-n)) e)):=by
    have hnz:¬ (n=0):=by omega
    have hasint:∀ w:World,(asInt (.int .i64 (n:Int))).run P w = .ok (n:Int) w:=fun w=>by simp[asInt,asIntOf]
    have hle:¬ ((n:Int)≤0):=by omega
    have hmx:max (n:Int) 0=n:=by omega
    have hnt:(n:Int).toNat=n:=by omega
    have hsz:¬ (i.size=0):=by omega
    have hneg:¬ ((n:Int)<0):=by omega
    have h48:¬ (281474976710656<(n:Int)*(i.bytes:Int)):=by have:(n:Int)*(i.bytes:Int)≤140737488355328:=hby;omega
    have h48':¬ (281474976710656<Builtin.nextslicecap n 0*i.bytes):=by have:=growslice_fits (old:=0) hn0' hby';omega
    have h63'':¬ (9223372036854775807<(n:Int)):=by omega
    simp[Builtin.append_,run_underlying ht,run_underlying hu,sizeOf,typeInfo,zeroValue,hi,hzi',hasint,wn,hneg,h48,hnz,hsz,h48',h63'',hle,hmx,Question.forced,newRow,grownCap,run_firstCells_none]
    intro h0
    exact absurd h0 (Nat.ne_of_gt (Nat.mul_pos hn0' hpos))
   refine⟨_,_,hrun,?_⟩
   have hcells:Cells c w (Builtin.zeroCells zv.cells n).toList (List.replicate n z).flatten:=by
    have h1:(Builtin.zeroCells zv.cells n).toList=(List.replicate n zv.cells.toList).flatten:=by
     unfold Builtin.zeroCells
     exact range_mod zv.cells n (by omega)
    rw[h1]
    exact flatten_replicate_cells _ _ hzc n
   have hsz:(Builtin.zeroCells zv.cells n++Builtin.zeroCells zv.cells (grownCap w n 0 e-n)).size=grownCap w n 0 e*i.size:=by
    simp only[Array.size_append,size_zeroCells,hzsz,← Nat.add_mul]
    congr 1;omega
   obtain⟨L,e1,e2,e3,e4,e5,e6⟩:=new_row h w.drew (Grew.drew w) e _ (List.replicate n z).flatten (Builtin.zeroCells zv.cells n).size (Builtin.zeroCells zv.cells n++Builtin.zeroCells zv.cells (grownCap w n 0 e-n)) (hal _).takes hcells (by
    simp only[Array.toList_append]
    exact List.take_left' (by simp)) (by simp only[Array.size_append];omega)
   have hp:=osl_new (c:=c) (w:=w.drew.alloc (.cells (Builtin.zeroCells zv.cells n++Builtin.zeroCells zv.cells (grownCap w n 0 e-n)) e)) e1 e3 al.1 0 i.size n (grownCap w n 0 e) (by rw[e4,hsz]) hgc hgm
   rw[e2]at hp
   exact⟨_,_,_,⟨rfl,rfl⟩,e5,hp,e6⟩
  ·cases ho
 ·cases ho
theorem ok_next(h:HOK G c H w){al:Al}{x d:D}{δ:Dl}{u:Value}{ty:TypeId}(hr:Rep c w u x)(ho:nextSO x H=some (d,δ)):∃ r w',(Instr.next u true ty).run P w = .ok r w'∧Post G c H w (KO H al d δ) r w':=by
 unfold nextSO at ho
 split at ho
 ·rename_i v
  split at ho
  ·rename_i s p hv
   cases hr with
   | ptr _ _ _ L hι hvirt=>
    have hob:=h.ob v _ hv
    simp only[Ob.gen]at hob
    rw[hι]at hob
    simp only[ObOK]at hob
    obtain⟨_,hb0,hblk⟩:=hob
    have hlt:=(Array.getElem?_eq_some_iff.1 hblk).1
    rw[hb0]
    by_cases hp:p<s.size
    ·rw[if_pos hp]at ho
     cases ho
     obtain⟨m1,m2⟩:=write_at h hv rfl rfl (ob':=.siter s (p+(Utf8.decode s p).2)) rfl hι hvirt (.stringIter s (p+(Utf8.decode s p).2)) (fun w' hw' _=>by
      simp only[ObOK];exact⟨hvirt,hb0,hw'⟩)
     refine⟨.tuple #[.bool true,goInt p,.int .i32 (Utf8.decode s p).1],_,?_,_,_,c,⟨rfl,rfl⟩,m1,?_,m2⟩
     ·simp[Instr.next,getObj,setObj,Sem.run,hblk,hp]
     ·refine .tup [.bool true,goInt p,.int .i32 (Utf8.decode s p).1] _ rfl fun i v d hv hd=>?_
      match i,hv,hd with
      | 0,hv,hd=>cases hv;cases hd;exact .val _
      | 1,hv,hd=>cases hv;cases hd;exact .val _
      | 2,hv,hd=>cases hv;cases hd;exact .val _
    ·rw[if_neg hp]at ho
     cases ho
     refine⟨.tuple #[.bool false],w,?_,_,_,c,⟨rfl,rfl⟩,h,?_,Step.refl _ _ _ _⟩
     ·simp[Instr.next,getObj,Sem.run,hblk,hp]
     ·refine .tup [.bool false] _ rfl fun i v d hv hd=>?_
      match i,hv,hd with
      | 0,hv,hd=>cases hv;cases hd;exact .val _
  ·cases ho
 ·cases ho
theorem ok_entry(h:HOK G c H w){x d:D}{u:Value}(hr:Rep c w u x)(ho:entryO x H=some d):∃ r,(Instr.entry u).run P w = .ok r w∧Rep c w r d:=by
 unfold entryO at ho
 split at ho
 ·rename_i v
  split at ho
  ·rename_i m since seen hv
   split at ho
   ·rename_i kk es i hm hlast
    split at ho
    ·rename_i k d0 hei
     split at ho
     ·rename_i hlen
      cases ho
      have hmv:=mapAt_some hm
      dsimp only at hmv
      cases hr with
      | ptr _ _ _ L hι hvirt=>
       have hob:=h.ob v _ hv
       simp only[Ob.gen]at hob
       rw[hι]at hob
       simp only[ObOK]at hob
       obtain⟨_,hb0,bm,hrm,hblk⟩:=hob
       cases hrm with
       | omap _ Lm hιm hvm=>
        have hobm:=h.ob m _ hmv
        simp only[Ob.gen]at hobm
        rw[hιm]at hobm
        simp only[ObOK]at hobm
        obtain⟨_,_,arr,clock,hmb,hsz,hent,hclk⟩:=hobm
        have hi:i<arr.size:=by rw[hsz];exact(List.getElem?_eq_some_iff.1 hei).1
        have hai:arr[i]? = some arr[i]:=by simp[hi]
        obtain⟨q1,q2,q3⟩:=hent i _ _ hai hei
        have hback:seen.toArray.back? = some i:=by simpa[Array.back?_eq_getElem?,List.getLast?_eq_getElem?]using hlast
        have hfind:arr.find? (fun e=>e.born == i)=some arr[i]:=by
         rw[Array.find?_eq_some_iff_getElem]
         refine⟨by simp[q3],i,hi,rfl,fun j hj=>?_⟩
         have hjl:j<es.length:=by rw[← hsz];omega
         have:=(hent j arr[j] es[j] (by simp) (by simp[hjl])).2.2
         simp[this]
         try omega
        refine⟨.tuple #[k,arr[i].val],?_,?_⟩
        ·rw[hb0]
         have hc:clock=since:=by rw[hclk,hlen]
         subst hc
         simp only[Nat.zero_add]
         simp only[Instr.entry,getObj,Sem.run_bind,Sem.run,hblk,Result.andThen_ok,hback,hmb,hfind]
         simp[q1]
        ·refine .tup [k,arr[i].val] _ rfl fun j v d hv hd=>?_
         match j,hv,hd with
         | 0,hv,hd=>cases hv;cases hd;exact .val _
         | 1,hv,hd=>cases hv;cases hd;exact q2
     ·cases ho
    ·cases ho
   ·cases ho
  ·cases ho
 ·cases ho
theorem ok_rangeM(h:HOK G c H w){al:Al}(hal:AlOK H al){t:TypeId}{k e:TypeId}(hu:P.underlying t=some (.map k e)){x d:D}{δ:Dl}{u:Value}(hr:Rep c w u x)(ho:rangeMO x H al.1=some (d,δ)) :
  ∃ r w',(Instr.range t u).run P w = .ok r w'∧Post G c H w (KO H al d δ) r w':=by
 unfold rangeMO at ho
 split at ho
 ·rename_i m
  split at ho
  ·rename_i kk es hm
   cases ho
   have hmv:=mapAt_some hm
   dsimp only at hmv
   cases hr with
   | omap _ Lm hιm hvm=>
    have hobm:=h.ob m _ hmv
    simp only[Ob.gen]at hobm
    rw[hιm]at hobm
    simp only[ObOK]at hobm
    obtain⟨_,_,arr,clock,hmb,hsz,hent,hclk⟩:=hobm
    obtain⟨k1,k2,k3⟩:=new_obj h hal (.mapIter (some Lm.b) clock #[] clock) (.miter (.omap m) es.length []) rfl rfl (fun hrep hb=>by
     simp only[ObOK]
     refine⟨trivial,trivial,Lm.b,hrep _ _ (.omap m Lm hιm hvm),?_⟩
     rw[← hclk];exact hb)
    exact⟨_,_,run_range_map w t k e Lm.b arr clock hu hmb,_,_,_,⟨rfl,rfl⟩,k1,k2,k3⟩
  ·cases ho
 ·cases ho
theorem sop_ok(h:HOK G c H w)(he:RepEnv c w env a){al:Al}(hal:AlOK H al){o:Oper}{io:IOp}(hc:compileSp P G o=some io){d:D}{δ:Dl}(hk:sopO env H al.1 io=some (d,δ)) :
  ∃ v w',Yld ((execOp a.eval o).run P w) v w'∧Post G c H w (KO H al d δ) v w':=by
 have plain:∀ {v:Value} {d:D},Rep c w v d→Post G c H w (KO H al d .no) v w:=fun hr=>⟨_,_,c,⟨rfl,rfl⟩,h,hr,Step.refl _ _ _ _⟩
 unfold compileSp at hc
 split at hc
 ·rename_i t x y ty ho
  split at hc
  ·rename_i hcond
   simp only[Option.map_eq_some_iff]at hc
   obtain⟨X,hX,rfl⟩:=hc
   have hy:y = .const (.slice none 0 0):=by
    have:=hcond.2
    unfold constNil at this
    split at this
    ·rfl
    ·cases this
   subst hy
   obtain⟨hk1,rfl⟩:=lift_some hk
   obtain⟨r,h1,h2⟩:=ok_nilS h hcond.1 (cX_ok h he hX) hk1 x (.const (.slice none 0 0))
   exact⟨r,w,by simp only[execOp,ho];exact yld_v h1,plain h2⟩
  ·cases hc
 ·rename_i t x y ty ho
  split at hc
  ·rename_i hcond
   simp only[Option.map_eq_some_iff]at hc
   obtain⟨X,hX,rfl⟩:=hc
   have hy:y = .const (.slice none 0 0):=by
    have:=hcond.2
    unfold constNil at this
    split at this
    ·rfl
    ·cases this
   subst hy
   obtain⟨hk1,rfl⟩:=lift_some hk
   obtain⟨r,h1,h2⟩:=ok_nilS h hcond.1 (cX_ok h he hX) hk1 x (.const (.slice none 0 0))
   exact⟨r,w,by simp only[execOp,ho];exact yld_v h1,plain h2⟩
  ·cases hc
 ·rename_i t x ho
  split at hc
  ·rename_i X hu hX
   cases hc
   simp only[sopO]at hk
   split at hk
   ·rename_i s hs
    cases hk
    have hr:=cX_ok h he hX
    rw[hs]at hr
    generalize hxe:a.eval x=u at hr
    cases hr
    obtain⟨k1,k2,k3⟩:=new_obj h hal (.stringIter s 0) (.siter s 0) rfl rfl (fun _ hb=>by simp only[ObOK];exact⟨trivial,trivial,hb⟩)
    refine⟨_,_,by simp only[execOp,ho,hxe];exact yld_v (v:=.pointer (some ⟨w.heap.size,0,none⟩)) (w':=w.alloc (.stringIter s 0)) (by simp[Instr.range,run_underlying hu]),_,_,_,⟨rfl,rfl⟩,k1,k2,k3⟩
   ·cases hk
  ·rename_i k e X hu hX
   cases hc
   obtain⟨r,w',h1,h2⟩:=ok_rangeM (P:=P) h hal hu (cX_ok h he hX) hk
   exact⟨r,w',by simp only[execOp,ho];exact yld_v h1,h2⟩
  ·cases hc
 ·rename_i x ho
  simp only[Option.map_eq_some_iff]at hc
  obtain⟨X,hX,rfl⟩:=hc
  obtain⟨r,w',h1,h2⟩:=ok_next (P:=P) (ty:=o.type) h (cX_ok h he hX) hk
  exact⟨r,w',by simp only[execOp,ho];exact yld_v h1,h2⟩
 ·simp only[Option.map_eq_some_iff]at hc
  obtain⟨X,hX,rfl⟩:=hc
  cases hk
 ·rename_i x ho
  simp only[Option.map_eq_some_iff]at hc
  obtain⟨X,hX,rfl⟩:=hc
  obtain⟨hk1,rfl⟩:=lift_some hk
  obtain⟨r,h1,h2⟩:=ok_entry (P:=P) h (cX_ok h he hX) hk1
  exact⟨r,w,by simp only[execOp,ho];exact yld_v h1,plain h2⟩
 ·rename_i cl ho
  split at hc
  ·rename_i t x hcal hat hargs
   split at hc
   ·rename_i hst
    simp only[Option.map_eq_some_iff]at hc
    obtain⟨X,hX,rfl⟩:=hc
    have hats:cl.argTypes = #[t]:=by rw[← Array.toArray_toList (xs:=cl.argTypes),hat]
    have hargs':cl.args = #[x]:=by rw[← Array.toArray_toList (xs:=cl.args),hargs]
    have hr:=cX_ok h he hX
    simp only[sopO]at hk
    split at hk
    ·rename_i hev
     cases hk
     rw[hev]at hr
     generalize hxe:a.eval x=u at hr
     cases hr
     have htt:∃ e,P.underlying t=some (.slice e):=by
      unfold sliceT at hst
      split at hst
      ·exact⟨_,by assumption⟩
      ·cases hst
     obtain⟨e,hu⟩:=htt
     refine⟨.int .i64 0,w,by rw[run_call ho hcal,hats,hargs'];exact yld_v (by simp[hxe,Builtin.cap_,run_underlying hu,goInt]),plain (.val _)⟩
    ·cases hk
   ·cases hc
  ·rename_i t x hcal hat hargs
   have hats:cl.argTypes = #[t]:=by rw[← Array.toArray_toList (xs:=cl.argTypes),hat]
   have hargs':cl.args = #[x]:=by rw[← Array.toArray_toList (xs:=cl.args),hargs]
   split at hc
   ·rename_i e hu
    split at hc
    ·rename_i z i X hz hi hX
     split at hc
     ·rename_i hcond
      cases hc
      obtain⟨w',h1,h2⟩:=ok_clr (P:=P) (al:=al) (ty:=o.type) h hu hi hz hcond.1 hcond.2 (cX_ok h he hX) hk
      exact⟨_,w',by rw[run_call ho hcal,hats,hargs'];exact yld_v (by simpa using h1),h2⟩
     ·cases hc
    ·cases hc
   ·cases hc
  ·rename_i t u x y hcal hat hargs
   have hats:cl.argTypes = #[t,u]:=by rw[← Array.toArray_toList (xs:=cl.argTypes),hat]
   have hargs':cl.args = #[x,y]:=by rw[← Array.toArray_toList (xs:=cl.args),hargs]
   split at hc
   ·rename_i e hu hu2
    split at hc
    ·rename_i z i X Y hz hi hX hY
     split at hc
     ·rename_i hcond
      cases hc
      obtain⟨r,w',h1,h2⟩:=ok_appZ (P:=P) (ty:=o.type) h hal hu hu2 hi hz hcond.1 hcond.2 (cX_ok h he hX) (cX_ok h he hY) hk
      exact⟨r,w',by rw[run_call ho hcal,hats,hargs'];exact yld_v (by simpa using h1),h2⟩
     ·cases hc
    ·cases hc
   ·cases hc
  ·cases hc
 ·cases hc
end
end Go.AL
namespace Go.AL
open Go
abbrev FW(ro:Option Nat):Fence:={ Fence.wide with round:=ro }
theorem callsIn_FW{ro:Option Nat}{n:Nat}{P:Program}{f:FuncId}{args:Array Value}{w:World}{R:Ending→World→Prop}:CallsIn (FW ro) n P f args w R↔Calls P f args w R:=
 callsIn_wide (n:=n)
inductive MOK(c:Ctx):List Nat→List Deferred→Prop
 | nil:MOK c [] []
 | cons {v:Nat} {vs:List Nat} {ds:List Deferred} (L:Loc) (h1:c.ι v 0=some L) (h2:L.virt=false) (h:MOK c vs ds):MOK c (v::vs) ({ target:=.collected L.b,args:=#[] }::ds)
theorem MOK.mono{c c':Ctx}(hι:∀ v L,c.ι v 0=some L→c'.ι v 0=some L){vs:List Nat}{ds:List Deferred}(h:MOK c vs ds):MOK c' vs ds:=by
 induction h with
 | nil=>exact .nil
 | cons L h1 h2 _ ih=>exact .cons L (hι _ _ h1) h2 ih
structure SOK(G:GT)(N:Nat)(c:Ctx)(w:World)(s:St)(a:Act):Prop where
 hok:HOK G c s.H w
 env:RepEnv c w s.env.get a
 size:N≤a.tmps.size
 marks:MOK c s.marks a.defers
def dstOK(N:Nat):Option Tmp→Bool
 | some d=>decide (d<N)
 | none=>true
def compileAny(P:Program)(G:GT)(o:Oper):Option IOp:=match compileOp P G o with
 | some op=>some op
 | none=>compileSp P G o
def compileOper(P:Program)(G:GT)(N:Nat)(ops:Array Oper)(o:Oper):Option IEnt:=
 match compileAny P G o with
 | none=>none
 | some op=>if dstOK N o.dst=true then(match o.guard with
   | none=>some ⟨o.dst,op,none⟩
   | some (j,want)=>match (ops[j]?).bind (·.dst)with
    | some t=>some ⟨o.dst,op,some (t,want)⟩
    | none=>none)else none
def compileOpers(P:Program)(G:GT)(N:Nat)(ops:Array Oper):List Oper→Option (List IEnt)
 | []=>some []
 | o::r=>match compileOper P G N ops o,compileOpers P G N ops r with
  | some e,some l=>some (e::l)
  | _,_=>none
section
variable{P:Program}{G:GT}{c:Ctx}{w:World}{env:EnvF}{a:Act}{N:Nat}
theorem put_eval{env:Env}{a:Act}{c:Ctx}{w:World}(he:RepEnv c w env.get a)(hN:N≤a.tmps.size){dst:Option Tmp}(hd:dstOK N dst=true){v:Value}{d:D}(hr:Rep c w v d) :
  RepEnv c w (put env dst d).get (a.put dst v):=by
 cases dst with
 | none=>exact he
 | some t=>
  have ht:t<a.tmps.size:=Nat.lt_of_lt_of_le (by simpa[dstOK]using hd) hN
  intro k
  simp only[put,Env.get_cons,Act.put]
  split
  ·rename_i e
   subst e
   have:(a.tmps.setIfInBounds t v).getD t undef=v:=by simp[Array.getD,ht]
   rw[this];exact hr
  ·rename_i e
   have:(a.tmps.setIfInBounds t v).getD k undef=a.tmps.getD k undef:=by
    simp only[Array.getD_eq_getD_getElem?,Array.getElem?_setIfInBounds_ne e]
   rw[this];exact he k
theorem put_size{a:Act}{dst:Option Tmp}{v:Value}:(a.put dst v).tmps.size=a.tmps.size:=by
 cases dst<;>simp[Act.put]
theorem put_defers{a:Act}{dst:Option Tmp}{v:Value}:(a.put dst v).defers=a.defers:=by
 cases dst<;>rfl
theorem RepEnv.carry{c c':Ctx}{w w':World}(h:∀ v d,Rep c w v d→Rep c' w' v d)(he:RepEnv c w env a):RepEnv c' w' env a:=fun k=>h _ _ (he k)
theorem SOK.next{c':Ctx}{w':World}{H':Heap}{s:St}(hs:SOK G N c w s a)(hok:HOK G c' H' w')(hst:Step s.H.length c s.H w c' H' w'){dst:Option Tmp}(hd:dstOK N dst=true)
  {v:Value} {d:D} (hr:Rep c' w' v d):SOK G N c' w' { s with env:=put s.env dst d,H:=H' } (a.put dst v) where
 hok:=hok
 env:=put_eval (hs.env.carry fun _ _ h=>h.step0 hs.hok.toHeapOK hst) hs.size hd hr
 size:=by rw[put_size];exact hs.size
 marks:=by
  rw[put_defers]
  refine hs.marks.mono fun v L h=>hst.old v 0 L ?_ h
  rcases Nat.lt_or_ge v s.H.length with h'|h'
  ·exact h'
  ·rw[hs.hok.out v 0 h']at h;cases h
theorem wanted_ok(he:RepEnv c w env a){ops:Array Oper}{o:Oper}{g:Option (Nat×Bool)}(hg:match o.guard with
   | none=>g=none
   | some (j,want)=>∃ t,(ops[j]?).bind (·.dst)=some t∧g=some (t,want)) {b:Bool} (h:guardOf env g=some b):Region.wanted o (yielded ops a.tmps)=b:=by
 unfold Region.wanted
 split at hg
 ·rename_i hgu
  subst hg
  simp only[guardOf,Option.some.injEq]at h
  simp[hgu,h]
 ·rename_i j want hgu
  obtain⟨t,ht,rfl⟩:=hg
  simp only[guardOf]at h
  split at h
  ·rename_i x hx
   cases h
   have hr:=he t
   rw[hx]at hr
   generalize hv:a.tmps.getD t undef=v at hr
   cases hr
   have hget:a.tmps[t]? = some (.bool x):=by
    rw[Array.getD_eq_getD_getElem?]at hv
    cases hq:a.tmps[t]? with
    | none=>rw[hq]at hv;simp[undef]at hv
    | some q=>rw[hq]at hv;simpa using hv
   simp only[hgu,yielded,ht,Option.bind_some,hget]
   cases x<;>cases want<;>rfl
  ·rename_i vs hx
   cases h
   have hr:=he t
   rw[hx]at hr
   generalize hv:a.tmps.getD t undef=v at hr
   cases hr
   have hget:a.tmps[t]? = some (.tuple vs)∨a.tmps[t]? = none:=by
    rw[Array.getD_eq_getD_getElem?]at hv
    cases hq:a.tmps[t]? with
    | none=>exact .inr rfl
    | some q=>rw[hq]at hv;exact .inl (by simpa using hv)
   rcases hget with hget|hget<;>simp only[hgu,yielded,ht,Option.bind_some,hget]<;>cases want<;>rfl
  ·cases h
theorem compileAny_spec{o:Oper}{op:IOp}(h:compileAny P G o=some op):compileOp P G o=some op∨compileSp P G o=some op:=by
 unfold compileAny at h
 split at h
 ·cases h;exact .inl (by assumption)
 ·exact .inr h
theorem comp_plain{o:Oper}{io:IOp}(hc:compileOp P G o=some io∨compileSp P G o=some io){f:EnvF}{H:Heap}{n:Nat}{r:D×Dl}(h:aopO f H n io=some r):compileOp P G o=some io:=by
 refine hc.resolve_right fun h2=>?_
 rw[special_aop (compileSp_special h2)]at h
 cases h
theorem comp_callee{o:Oper}{io:IOp}(hc:compileOp P G o=some io∨compileSp P G o=some io){f:EnvF}{r:FuncId×List D}(h:calleeOf f io=some r):compileOp P G o=some io:=by
 refine hc.resolve_right fun h2=>?_
 rw[special_callee (compileSp_special h2)]at h
 cases h
theorem compileOper_spec{ops:Array Oper}{o:Oper}{e:IEnt}(h:compileOper P G N ops o=some e) :
  (compileOp P G o=some e.op∨compileSp P G o=some e.op)∧e.dst=o.dst∧(dstOK N o.dst=true)∧(match o.guard with
   | none=>e.guard=none
   | some (j,want)=>∃ t,(ops[j]?).bind (·.dst)=some t∧e.guard=some (t,want)):=by
 unfold compileOper at h
 split at h
 ·cases h
 ·rename_i op hop
  split at h
  ·rename_i hd
   split at h
   ·rename_i hg
    cases h
    exact⟨compileAny_spec hop,rfl,hd,by simp[hg]⟩
   ·rename_i j want hg
    split at h
    ·rename_i t ht
     cases h
     exact⟨compileAny_spec hop,rfl,hd,t,ht,rfl⟩
    ·cases h
  ·cases h
theorem no_defer{o:Oper}{io:IOp}(h:compileOp P G o=some io):∀ c,o.op≠.defer c:=by
 intro c hc
 simp[compileOp,hc]at h
theorem no_deferS{o:Oper}{io:IOp}(h:compileSp P G o=some io):∀ c,o.op≠.defer c:=by
 intro c hc
 simp[compileSp,hc]at h
theorem wp_special{ro:Option Nat}{n:Nat}{o:Oper}{s:St}{io:IOp}{d:D}{δ:Dl}{next:Act→World→Prop}{Q:Exit→Act→World→Prop}(hs:SOK G N c w s a)(hc:compileSp P G o=some io)
  (hd:dstOK N o.dst=true) {al:Al} (hal:AlOK s.H al) (h:sopO s.env.get s.H al.1 io=some (d,δ))
  (k:∀ c' w' a',SOK G N c' w' { s with env:=put s.env o.dst d,H:=δ.app s.H al } a'→Step s.H.length c s.H w c' (δ.app s.H al) w'→next a' w'):o.wpIn (FW ro) n P a w next Q:=by
 obtain⟨v,w',hy,d',H',c',⟨rfl,rfl⟩,hok,hr,hst⟩:=sop_ok (P:=P) hs.hok hs.env hal hc h
 refine⟨fun _ _=>trivial,?_⟩
 rw[Oper.semAt_plain (FW ro) a.eval o (no_deferS hc)]
 have hn:=k c' w' (a.put o.dst v) (hs.next hok hst hd hr) hst
 rcases hy with hy|⟨hy,rfl⟩
 ·rw[hy];exact hn
 ·rw[hy];exact hn
theorem wp_next{ro:Option Nat}{n:Nat}{o:Oper}{s:St}{x:X}{next:Act→World→Prop}{Q:Exit→Act→World→Prop}(hs:SOK G N c w s a)(hc:compileSp P G o=some (.nextM x))
  (hd:dstOK N o.dst=true) {v m since:Nat} {seen:List Nat} {kk:KK} {es:List (Value×D)} (hx:ev s.env.get x = .ptr v 0 0) (hv:s.H[v]? = some (.miter (.omap m) since seen)) (hm:s.H[m]? = some (.map kk es)) (hsn:es.length=since)
  (k0:(∀ i,i<es.length→i∈seen)→∀ c' w' a',SOK G N c' w' { s with env:=put s.env o.dst (.tup [.b false]) } a'→Step s.H.length c s.H w c' s.H w'→next a' w')
  (k1:∀ i k d,es[i]? = some (k,d)→i ∉ seen→∀ c' w' a',SOK G N c' w' { s with env:=put s.env o.dst (.tup [.b true,.val k,d]),H:=s.H.set v (.miter (.omap m) since (seen ++ [i])) } a' →
   Step s.H.length c s.H w c' (s.H.set v (.miter (.omap m) since (seen ++ [i]))) w'→next a' w'):o.wpIn (FW ro) n P a w next Q:=by
 have hop:∃ y,o.op = .next y false∧cX G y=some x:=by
  unfold compileSp at hc
  repeat' split at hc
  all_goals first|(cases hc;done)|(simp only[Option.map_eq_some_iff]at hc;obtain⟨_,_,hh⟩:=hc;cases hh;done)|skip
  simp only[Option.map_eq_some_iff]at hc
  obtain⟨X,hX,hh⟩:=hc
  cases hh
  exact⟨_,by assumption,hX⟩
 obtain⟨y,ho,hX⟩:=hop
 have hr:=cX_ok hs.hok hs.env hX
 rw[hx]at hr
 generalize hu:a.eval y=u at hr
 cases hr with
 | ptr _ _ _ L hι hvirt=>
  have hob:=hs.hok.ob v _ hv
  simp only[Ob.gen]at hob
  rw[hι]at hob
  simp only[ObOK]at hob
  obtain⟨_,hb0,bm,hrm,hblk⟩:=hob
  cases hrm with
  | omap _ Lm hιm hvm=>
   have hobm:=hs.hok.ob m _ hm
   simp only[Ob.gen]at hobm
   rw[hιm]at hobm
   simp only[ObOK]at hobm
   obtain⟨_,_,arr,clock,hmb,hsz,hent,hclk⟩:=hobm
   have hc':clock=since:=by rw[hclk,hsn]
   subst hc'
   refine⟨fun _ _=>trivial,?_⟩
   rw[Oper.semAt_plain (FW ro) a.eval o (no_deferS hc)]
   have hborn:∀ e∈arr.toList,e.born<clock:=by
    intro e he
    obtain⟨i,hi⟩:=List.mem_iff_getElem?.1 he
    have hil:i<es.length:=by rw[← hsz];have:=(List.getElem?_eq_some_iff.1 hi).1;simpa using this
    have:=(hent i e es[i] (by simpa using hi) (by simp[hil])).2.2
    omega
   have htest:=next_test_false seen.toArray arr clock clock hborn (Nat.le_refl _)
   have hold:(leftOf arr seen.toArray).filter (fun e=>decide (e.born<clock))=leftOf arr seen.toArray:=by
    apply Array.filter_eq_self.2
    intro e he
    simp only[decide_eq_true_eq]
    exact hborn e (by simpa using (Array.mem_filter.1 he).1)
   have hnew:(leftOf arr seen.toArray).filter (fun e=>decide (e.born≥clock)) = #[]:=by
    apply Array.filter_eq_empty_iff.2
    intro e he
    have:=hborn e (by simpa using (Array.mem_filter.1 he).1)
    simp;omega
   have hgo1:∀ w1:World,w1.heap=w.heap→(getObj L.b).run P w1 = .ok (.mapIter (some Lm.b) clock seen.toArray clock) w1:=fun w1 h1=>by simp[getObj,Sem.run,h1,hblk]
   have hgo2:∀ w1:World,w1.heap=w.heap→(getObj Lm.b).run P w1 = .ok (.map arr clock) w1:=fun w1 h1=>by simp[getObj,Sem.run,h1,hmb]
   have hmem:∀ e,e∈(leftOf arr seen.toArray).toList→∃ i k d,es[i]? = some (k,d)∧i ∉ seen∧e.key=k∧Rep c w e.val d∧e.born=i:=by
    intro e he
    have he':e∈arr∧(!seen.toArray.contains e.born)=true:=by
     have:=Array.mem_filter.1 (show e∈leftOf arr seen.toArray by simpa using he)
     exact this
    obtain⟨i,hi⟩:=List.mem_iff_getElem?.1 (show e∈arr.toList by simpa using he'.1)
    have hil:i<es.length:=by rw[← hsz];have:=(List.getElem?_eq_some_iff.1 hi).1;simpa using this
    obtain⟨q1,q2,q3⟩:=hent i e es[i] (by simpa using hi) (by simp[hil])
    refine⟨i,es[i].1,es[i].2,by simp[hil],?_,q1,q2,q3⟩
    have:=he'.2
    rw[q3]at this
    simpa using this
   by_cases hleft:(leftOf arr seen.toArray) = #[]
   ·have hrun:(execOp a.eval o).run P w = .ok (.value (.tuple #[.bool false])) w:=by
     have h2:(Instr.next (.pointer (some ⟨L.b,0,none⟩)) false o.type).run P w = .ok (.tuple #[.bool false]) w:=by
      have hlf:(arr.filter fun e => !(seen.toArray).contains e.born) = #[]:=hleft
      simp only[Instr.next,Sem.run_bind,hgo1 w rfl,Result.andThen_ok,hgo2 w rfl,htest,Bool.false_eq_true,if_false,Sem.run_pure,hlf]
      simp[choose,Sem.run,Question.forced]
     simp only[execOp,ho,hu]
     rw[hb0]
     simp[h2]
    rw[hrun]
    refine k0 (fun i hi=>?_) c w _ (hs.next hs.hok (Step.refl _ _ _ _) hd (.tup [.bool false] _ rfl fun j v d hv hd=>?_)) (Step.refl _ _ _ _)
    ·by_cases hin:i∈seen
     ·exact hin
     ·exfalso
      have hia:i<arr.size:=by omega
      have hborni:=(hent i arr[i] es[i] (by simp[hia]) (by simp[hi])).2.2
      have:arr[i]∈leftOf arr seen.toArray:=by
       refine Array.mem_filter.2 ⟨Array.getElem_mem _,?_⟩
       rw[hborni];simpa using hin
      rw[hleft]at this
      simp at this
    ·match j,hv,hd with
     | 0,hv,hd=>cases hv;cases hd;exact .val _
   ·have hne:(leftOf arr seen.toArray).isEmpty=false:=by
     cases hq:(leftOf arr seen.toArray).isEmpty with
     | false=>rfl
     | true=>exact absurd (Array.isEmpty_iff.1 hq) hleft
    have hpos:0<(leftOf arr seen.toArray).size:=by
     rcases Nat.eq_zero_or_pos (leftOf arr seen.toArray).size with h|h
     ·exact absurd (Array.eq_empty_of_size_eq_zero h) hleft
     ·exact h
    have hch:∃ (i:Nat) (w1:World),i<(leftOf arr seen.toArray).size∧Grew w w1∧w1.heap=w.heap∧(choose (.mapNext (leftOf arr seen.toArray).size)).run P w = .ok i w1:=by
     by_cases hf:(Question.mapNext (leftOf arr seen.toArray).size).forced=true
     ·exact⟨0,w,hpos,Grew.refl w,rfl,by simp[choose,Sem.run,hf]⟩
     ·exact⟨w.tape w.drawn (.mapNext (leftOf arr seen.toArray).size) % (leftOf arr seen.toArray).size,{ w with drawn:=w.drawn+1 },Nat.mod_lt _ hpos,Grew.drew w,rfl,by simp[choose,Sem.run,hf,Question.cut]⟩
    obtain⟨i,w1,hi,hgrew,hheap,hchoose⟩:=hch
    obtain⟨i',k,d,h1,h2,h3,h4,h5⟩:=hmem (leftOf arr seen.toArray)[i] (by simp)
    have hok1:=hs.hok.grew hgrew
    obtain⟨m1,m2⟩:=write_at hok1 hv rfl rfl (ob':=.miter (.omap m) clock (seen ++ [i'])) rfl hι hvirt (.mapIter (some Lm.b) clock (seen ++ [i']).toArray clock) (fun w' hw' hrep=>by
     simp only[ObOK]
     exact⟨hvirt,hb0,Lm.b,.omap m Lm hιm hvm,hw'⟩)
    have hst:Step s.H.length c s.H w c (s.H.set v (.miter (.omap m) clock (seen ++ [i']))) { w1 with heap:=w1.heap.setIfInBounds L.b (.mapIter (some Lm.b) clock (seen ++ [i']).toArray clock) }:=(step_grew _ hgrew).trans m2 (Nat.le_refl _)
    have hrun:(execOp a.eval o).run P w = .ok (.value (.tuple #[.bool true,k,(leftOf arr seen.toArray)[i].val])) { w1 with heap:=w1.heap.setIfInBounds L.b (.mapIter (some Lm.b) clock (seen ++ [i']).toArray clock) }:=by
     have hset:(setObj L.b (.mapIter (some Lm.b) clock (seen ++ [i']).toArray clock)).run P w1 = .ok () { w1 with heap:=w1.heap.setIfInBounds L.b (.mapIter (some Lm.b) clock (seen ++ [i']).toArray clock) }:=by
      simp[setObj,Sem.run,hheap,hblk]
     have h2:(Instr.next (.pointer (some ⟨L.b,0,none⟩)) false o.type).run P w = .ok (.tuple #[.bool true,k,(leftOf arr seen.toArray)[i].val]) { w1 with heap:=w1.heap.setIfInBounds L.b (.mapIter (some Lm.b) clock (seen ++ [i']).toArray clock) }:=by
      have hlf:(arr.filter fun e => !(seen.toArray).contains e.born)=leftOf arr seen.toArray:=rfl
      have hcs:((if (leftOf arr seen.toArray).isEmpty then #[none]else #[])++(leftOf arr seen.toArray ++ #[]).map some)=(leftOf arr seen.toArray).map some:=by simp[hne]
      simp only[Instr.next,Sem.run_bind,hgo1 w rfl,Result.andThen_ok,hgo2 w rfl,htest,Bool.false_eq_true,if_false,Sem.run_pure,hlf,hold,hnew,hcs,Array.size_map,hchoose]
      have hgi:((leftOf arr seen.toArray).map some)[i]? = some (some (leftOf arr seen.toArray)[i]):=by simp[hi]
      simp only[hgi,Sem.run_bind]
      rw[h5,show seen.toArray.push i'=(seen ++ [i']).toArray by simp,hset]
      simp[h3]
     simp only[execOp,ho,hu]
     rw[hb0]
     simp[h2]
    rw[hrun]
    refine k1 i' k d h1 h2 c _ _ (hs.next m1 hst hd (.tup [.bool true,k,(leftOf arr seen.toArray)[i].val] _ rfl fun j v d hv hd=>?_)) hst
    match j,hv,hd with
    | 0,hv,hd=>cases hv;cases hd;exact .val _
    | 1,hv,hd=>cases hv;cases hd;exact .val _
    | 2,hv,hd=>cases hv;cases hd;exact h4.step0 hs.hok.toHeapOK hst
theorem wp_plain{ro:Option Nat}{n:Nat}{o:Oper}{s:St}{io:IOp}{d:D}{δ:Dl}{next:Act→World→Prop}{Q:Exit→Act→World→Prop}(hs:SOK G N c w s a)(hc:compileOp P G o=some io)
  (hd:dstOK N o.dst=true) {al:Al} (hal:AlOK s.H al) (h:aopO s.env.get s.H al.1 io=some (d,δ))
  (k:∀ c' w' a',SOK G N c' w' { s with env:=put s.env o.dst d,H:=δ.app s.H al } a'→Step s.H.length c s.H w c' (δ.app s.H al) w'→next a' w'):o.wpIn (FW ro) n P a w next Q:=by
 obtain⟨v,w',hy,d',H',c',⟨rfl,rfl⟩,hok,hr,hst⟩:=plain_ok (P:=P) (K:=fun d' H'=>d'=d∧H'=δ.app s.H al) hs.hok hs.env hal hc (aop_of_aopO h ⟨rfl,rfl⟩)
 refine⟨fun _ _=>trivial,?_⟩
 rw[Oper.semAt_plain (FW ro) a.eval o (no_defer hc)]
 have hn:=k c' w' (a.put o.dst v) (hs.next hok hst hd hr) hst
 rcases hy with hy|⟨hy,rfl⟩
 ·rw[hy];exact hn
 ·rw[hy];exact hn
end
end Go.AL
namespace Go.AL
open Go
section
variable{P:Program}{G:GT}{c:Ctx}{w:World}{env:EnvF}{a:Act}{N:Nat}
theorem compile_call{o:Oper}{io:IOp}(hc:compileOp P G o=some io)(h:isCall io=true):∃ cl,o.op = .call cl:=by
 unfold compileOp at hc
 split at hc
 all_goals first|exact⟨_,by assumption⟩|skip
 all_goals exfalso
 all_goals try simp only[Option.bind_eq_bind,Option.bind_eq_some_iff,Option.pure_def]at hc
 all_goals (repeat' first|(obtain⟨_,_,hc⟩:=hc)|split at hc|simp only[Option.bind_eq_some_iff]at hc)
 all_goals first|(simp[isCall]at h;done)|(cases hc<;>simp[isCall]at h)
theorem run_callee{H:Heap}(hok:HOK G c H w)(he:RepEnv c w env a){o:Oper}{io:IOp}(hc:compileOp P G o=some io){f:FuncId}{args:List D}(hcal:calleeOf env io=some (f,args))(hent:entersB P f=true) :
  ∃ vs:List Value,(execOp a.eval o).run P w = .ok (.enter f vs.toArray) w∧RepL c w vs args:=by
 have hc0:=hc
 unfold compileOp at hc
 cases ho:o.op with
 | call cl=>
  simp only[ho,Option.bind_eq_bind,Option.bind_eq_some_iff]at hc
  obtain⟨xs,hargs,hc⟩:=hc
  have hrl:=cXs_ok hok he cl.args.toList hargs
  split at hc
  ·rename_i g hcallee
   split at hc
   ·have hcal':g=f∧List.map (ev env) xs=args:=by
     cases hc
     have hb:calleeOf env (if G.nw g=true then IOp.callN g xs else IOp.call g xs)=some (g,xs.map (ev env)):=by split<;>rfl
     rw[hb]at hcal
     simpa using hcal
    obtain⟨rfl,rfl⟩:=hcal'
    refine⟨_,?_,hrl⟩
    have e:cl.args.map a.eval=(cl.args.toList.map a.eval).toArray:=by cases cl.args;simp
    simp only[execOp,ho,resolve,hcallee,Act.eval,Deferred.ofValue,Sem.run_bind,Sem.run_pure,Result.andThen_ok,invoke]
    rw[← e]
    have h2:=run_enters (P:=P) hent (cl.args.map a.eval) w
    simpa using h2
   ·cases hc
  ·rename_i x hne hcallee
   simp only[Option.bind_eq_some_iff,Option.pure_def,Option.some.injEq]at hc
   obtain⟨X,hX,rfl⟩:=hc
   simp only[calleeOf]at hcal
   split at hcal
   ·rename_i k first cap hev
    cases hcal
    have hr:=cX_ok hok he hX
    rw[hev]at hr
    generalize hv:a.eval x=v at hr
    cases hr with
    | fn _ fs cs _ _ e1 e2 e3 e4=>
     refine⟨fs++cl.args.toList.map a.eval++cs,?_,((RepL.of_get e1 e3).append hrl).append (RepL.of_get e2 e4)⟩
     simp only[execOp,ho,resolve,hcallee,hv,Deferred.ofValue,Sem.run_bind,Sem.run_pure,Result.andThen_ok,invoke]
     have h2:=run_enters (P:=P) hent (fs.toArray++cl.args.map a.eval++cs.toArray) w
     have e2:fs.toArray++cl.args.map a.eval++cs.toArray=(fs++cl.args.toList.map a.eval++cs).toArray:=by cases cl.args;simp
     rw[e2]at h2 ⊢
     exact h2
   ·cases hcal
  ·split at hc
   ·simp only[Option.bind_eq_some_iff]at hc
    obtain⟨td,_,hc⟩:=hc
    split at hc
    ·simp only[Option.bind_eq_some_iff]at hc
     obtain⟨i,_,z,_,ud,_,hc⟩:=hc
     split at hc
     ·split at hc
      ·cases hc;cases hcal
      ·cases hc
     ·cases hc
    ·cases hc
   ·cases hc
  ·split at hc
   ·simp only[Option.bind_eq_some_iff]at hc
    obtain⟨td,_,hc⟩:=hc
    split at hc
    ·simp only[Option.bind_eq_some_iff]at hc
     obtain⟨ud,_,hc⟩:=hc
     split at hc
     ·simp only[Option.bind_eq_some_iff]at hc
      obtain⟨n,_,hc⟩:=hc
      split at hc
      ·cases hc;cases hcal
      ·cases hc
     ·cases hc
    ·cases hc
   ·cases hc
  ·split at hc
   ·split at hc
    ·cases hc;cases hcal
    ·cases hc;cases hcal
    ·cases hc;cases hcal
    ·cases hc
   ·cases hc
  ·cases hc;cases hcal
  ·cases hc;cases hcal
  ·cases hc
 | _=>
  have h1:isCall io=true:=by unfold calleeOf at hcal;unfold isCall;split at hcal<;>first|rfl|cases hcal
  obtain⟨cl,h2⟩:=compile_call hc0 h1
  rw[ho]at h2
  cases h2
end
end Go.AL
namespace Go.AL
open Go
abbrev Fp:=Nat×Option (Nat×Nat)
def wholeOf:D→List Fp
 | .osl v _ _ _ _=>[(v,none)]
 | .omap v=>[(v,none)]
 | _=>[]
def cellsFp(n:Nat):D→List Fp
 | .ptr v _ o=>[(v,some (o,n))]
 | _=>[]
def fpR(f:EnvF)(H:Heap):IOp→List Fp
 | .ld1 x=>cellsFp 1 (ev f x)
 | .ldN n x=>cellsFp n (ev f x)
 | .st1 a _=>cellsFp 1 (ev f a)
 | .stN n a _=>cellsFp n (ev f a)
 | .lookup _ _ _ m _=>wholeOf (ev f m)
 | .mapUpd _ m _ _=>wholeOf (ev f m)
 | .len .map x=>wholeOf (ev f x)
 | .b2s x=>wholeOf (ev f x)
 | .app _ _ _ x y=>wholeOf (ev f x)++wholeOf (ev f y)
 | .copy _ x y=>wholeOf (ev f x)++wholeOf (ev f y)
 | .call g args=>((args.map (ev f)).map (refsD H 40)).flatten.map fun v=>(v,none)
 | .callN g args=>((args.map (ev f)).map (refsD H 40)).flatten.map fun v=>(v,none)
 | .callv g args=>match calleeOf f (.callv g args)with
  | some (_,ds)=>(ds.map (refsD H 40)).flatten.map fun v=>(v,none)
  | none=>[]
 | _=>[]
def fpW(n:Nat):Dl→List Fp
 | .no=>[]
 | .cells v o xs=>[(v,some (o,xs.length))]
 | .obj v _=>[(v,none)]
 | .new _=>[(n,none)]
def apart1:Fp→Fp→Bool
 | (v,none),(u,_)=>v != u
 | (v,some _),(u,none)=>v != u
 | (v,some (o,n)),(u,some (p,m))=>v != u||decide (o+n≤p)||decide (p+m≤o)
def apartL(a b:List Fp):Bool:=a.all fun x=>b.all fun y=>apart1 x y
def Alike(x:Fp)(H1 H2:Heap):Prop:=
 match x with
 | (v,none)=>H1[v]? = H2[v]?
 | (v,some (o,n))=>H1[v]? = H2[v]?∨∃ t g cs ds,H1[v]? = some (.row t g cs)∧H2[v]? = some (.row t g ds)∧cs.length=ds.length∧∀ i,o≤i→i<o+n→cs[i]? = ds[i]?
def AlikeL(l:List Fp)(H1 H2:Heap):Prop:=∀ x∈l,Alike x H1 H2
def usesX:X→List Nat
 | .t k=>[k]
 | .c _=>[]
def usesXs(l:List X):List Nat:=(l.map usesX).flatten
def usesO:Option X→List Nat
 | some x=>usesX x
 | none=>[]
def uses:IOp→List Nat
 | .mv x=>usesX x
 | .pick c a b=>usesX c++usesX a++usesX b
 | .box _ x=>usesX x
 | .alloc _ _=>[]
 | .build _ ps=>(ps.map fun p=>usesX p.2.2).flatten
 | .buildSl _ _ _ _ ps=>(ps.map fun p=>usesX p.2).flatten
 | .ld1 x=>usesX x
 | .ldN _ x=>usesX x
 | .st1 a x=>usesX a++usesX x
 | .stN _ a x=>usesX a++usesX x
 | .nilck x=>usesX x
 | .arith _ x y=>usesX x++usesX y
 | .eqS _ _ _ x y=>usesX x++usesX y
 | .un _ x=>usesX x
 | .conv _ x=>usesX x
 | .b2s x=>usesX x
 | .mkfn _ a b=>usesXs a++usesXs b
 | .mkmap _=>[]
 | .mksl _ _ _ _ l c=>usesX l++usesX c
 | .slc _ x lo hi=>usesX x++usesO lo++usesO hi
 | .slcS x lo hi=>usesX x++usesO lo++usesO hi
 | .fieldA _ x=>usesX x
 | .field _ _ _ x=>usesX x
 | .idxA _ x i=>usesX x++usesX i
 | .idxArr _ _ x i=>usesX x++usesX i
 | .idx _ _ _ x i=>usesX x++usesX i
 | .idxStr x i=>usesX x++usesX i
 | .lookup _ _ _ m k=>usesX m++usesX k
 | .mapUpd _ m k x=>usesX m++usesX k++usesX x
 | .ext x _=>usesX x
 | .call _ args=>usesXs args
 | .callN _ args=>usesXs args
 | .callv f args=>usesX f++usesXs args
 | .app _ _ _ x y=>usesX x++usesX y
 | .copy _ x y=>usesX x++usesX y
 | .len _ x=>usesX x
 | .minmax _ xs=>usesXs xs
 | .nilS _ x | .capE x | .clr _ _ x | .rangeS x | .nextS x | .rangeM x | .nextM x | .entry x=>usesX x
 | .appZ _ _ _ _ x n=>usesX x++usesX n
def pureOp:IOp→Bool
 | .mv _ | .pick .. | .build .. | .nilck _ | .arith .. | .eqS .. | .un .. | .conv .. | .mkfn .. | .slc .. | .slcS .. | .fieldA .. | .field .. | .idxA .. | .idxArr .. | .idx .. | .idxStr .. | .ext .. | .minmax ..
 | .len .slice _ | .len .string _=>true
 | _=>false
def readOp:IOp→Bool
 | .ld1 _ | .ldN .. | .b2s _ | .lookup .. | .len .. | .call .. | .callv .. => true
 | op=>pureOp op
def stillApart(a b:IOp):Bool:=pureOp a||pureOp b||(readOp a&&readOp b)
section
variable{f f':EnvF}
theorem ev_congr{x:X}(h:∀ t∈usesX x,f t=f' t):ev f x=ev f' x:=by
 cases x with
 | t k=>exact h k (by simp[usesX])
 | c d=>rfl
theorem evs_congr{l:List X}(h:∀ t∈usesXs l,f t=f' t):l.map (ev f)=l.map (ev f'):=
 List.map_congr_left fun x hx=>ev_congr fun t ht=>h t (List.mem_flatten.2 ⟨_,List.mem_map.2 ⟨x,hx,rfl⟩,ht⟩)
theorem parts_congr:∀ {l:List (Nat×Nat×X)},(∀ t∈(l.map fun p=>usesX p.2.2).flatten,f t=f' t)→partsOf f l=partsOf f' l
 | [],_=>rfl
 | (o,n,x)::r,h=>by
  have h1:ev f x=ev f' x:=ev_congr fun t ht=>h t (by simp[ht])
  have h2:=parts_congr (l:=r) fun t ht=>h t (by simp only[List.map_cons,List.flatten_cons,List.mem_append];exact .inr ht)
  simp only[partsOf,h1,h2]
theorem bound_congr{x:Option X}{n:Int}(h:∀ t∈usesO x,f t=f' t):boundOf f x n=boundOf f' x n:=by
 cases x with
 | none=>rfl
 | some x=>simp only[boundOf,ev_congr (x:=x) h]
theorem ints_congr:∀ {l:List X},(∀ t∈usesXs l,f t=f' t)→intsOf f l=intsOf f' l
 | [],_=>rfl
 | x::r,h=>by
  have h1:ev f x=ev f' x:=ev_congr fun t ht=>h t (by simp[usesXs,ht])
  have h2:=ints_congr (l:=r) fun t ht=>h t (by simp only[usesXs,List.map_cons,List.flatten_cons,List.mem_append];exact .inr ht)
  simp only[intsOf,h1,h2]
theorem aopO_congr{op:IOp}(h:∀ t∈uses op,f t=f' t)(H:Heap)(n:Nat):aopO f H n op=aopO f' H n op:=by
 have hx:∀ {x:X},(∀ t∈usesX x,t∈uses op)→ev f x=ev f' x:=fun hm=>ev_congr fun t ht=>h t (hm t ht)
 cases op<;>simp only[aopO]<;>first|rfl|skip
 case mv x=>rw[hx (x:=x) (fun t ht=>by simpa[uses]using ht)]
 case pick c a b=>rw[hx (x:=c) (fun t ht=>by simp[uses,ht]),hx (x:=a) (fun t ht=>by simp[uses,ht]),hx (x:=b) (fun t ht=>by simp[uses,ht])]
 case box x=>rw[hx (x:=x) (fun t ht=>by simpa[uses]using ht)]
 case build z ps=>simp only[buildO,parts_congr (f:=f) (f':=f') (l:=ps) (fun t ht=>h t (by simpa[uses]using ht))]
 case buildSl t sz z m ps=>
  have:=parts_congr (f:=f) (f':=f') (l:=ps.map fun p=>(p.1*sz,sz,p.2)) (fun t ht=>h t (by simpa[uses,List.map_map,Function.comp_def]using ht))
  simp only[buildSlO,this]
 case ld1 x=>rw[hx (x:=x) (fun t ht=>by simpa[uses]using ht)]
 case ldN n x=>rw[hx (x:=x) (fun t ht=>by simpa[uses]using ht)]
 case st1 a x=>rw[hx (x:=a) (fun t ht=>by simp[uses,ht]),hx (x:=x) (fun t ht=>by simp[uses,ht])]
 case stN n a x=>rw[hx (x:=a) (fun t ht=>by simp[uses,ht]),hx (x:=x) (fun t ht=>by simp[uses,ht])]
 case nilck x=>rw[hx (x:=x) (fun t ht=>by simpa[uses]using ht)]
 case arith op x y=>rw[hx (x:=x) (fun t ht=>by simp[uses,ht]),hx (x:=y) (fun t ht=>by simp[uses,ht])]
 case eqS b ls neg x y=>rw[hx (x:=x) (fun t ht=>by simp[uses,ht]),hx (x:=y) (fun t ht=>by simp[uses,ht])]
 case un op x=>rw[hx (x:=x) (fun t ht=>by simpa[uses]using ht)]
 case conv k x=>rw[hx (x:=x) (fun t ht=>by simpa[uses]using ht)]
 case b2s x=>rw[hx (x:=x) (fun t ht=>by simpa[uses]using ht)]
 case mkfn g a b=>rw[evs_congr (f:=f) (f':=f') (l:=a) (fun t ht=>h t (by simp[uses,ht])),evs_congr (f:=f) (f':=f') (l:=b) (fun t ht=>h t (by simp[uses,ht]))]
 case mksl t sz by' z l c=>rw[hx (x:=l) (fun t ht=>by simp[uses,ht]),hx (x:=c) (fun t ht=>by simp[uses,ht])]
 case slc sz x lo hi=>
  have e1:∀ n,boundOf f lo n=boundOf f' lo n:=fun n=>bound_congr fun t ht=>h t (by simp[uses,ht])
  have e2:∀ n,boundOf f hi n=boundOf f' hi n:=fun n=>bound_congr fun t ht=>h t (by simp[uses,ht])
  simp only[slcO,e1,e2,hx (x:=x) (fun t ht=>by simp[uses,ht])]
 case slcS x lo hi=>
  have e1:∀ n,boundOf f lo n=boundOf f' lo n:=fun n=>bound_congr fun t ht=>h t (by simp[uses,ht])
  have e2:∀ n,boundOf f hi n=boundOf f' hi n:=fun n=>bound_congr fun t ht=>h t (by simp[uses,ht])
  simp only[slcSO,e1,e2,hx (x:=x) (fun t ht=>by simp[uses,ht])]
 case fieldA o x=>rw[hx (x:=x) (fun t ht=>by simpa[uses]using ht)]
 case field o n b x=>rw[hx (x:=x) (fun t ht=>by simpa[uses]using ht)]
 case idxA sz x i=>rw[hx (x:=x) (fun t ht=>by simp[uses,ht]),hx (x:=i) (fun t ht=>by simp[uses,ht])]
 case idxArr sz n x i=>rw[hx (x:=x) (fun t ht=>by simp[uses,ht]),hx (x:=i) (fun t ht=>by simp[uses,ht])]
 case idx sz n b x i=>rw[hx (x:=x) (fun t ht=>by simp[uses,ht]),hx (x:=i) (fun t ht=>by simp[uses,ht])]
 case idxStr x i=>rw[hx (x:=x) (fun t ht=>by simp[uses,ht]),hx (x:=i) (fun t ht=>by simp[uses,ht])]
 case lookup kk z ok m k=>rw[hx (x:=m) (fun t ht=>by simp[uses,ht]),hx (x:=k) (fun t ht=>by simp[uses,ht])]
 case mapUpd kk m k x=>rw[hx (x:=m) (fun t ht=>by simp[uses,ht]),hx (x:=k) (fun t ht=>by simp[uses,ht]),hx (x:=x) (fun t ht=>by simp[uses,ht])]
 case ext x i=>rw[hx (x:=x) (fun t ht=>by simpa[uses]using ht)]
 case app t sz by' x y=>rw[hx (x:=x) (fun t ht=>by simp[uses,ht]),hx (x:=y) (fun t ht=>by simp[uses,ht])]
 case copy sz x y=>rw[hx (x:=x) (fun t ht=>by simp[uses,ht]),hx (x:=y) (fun t ht=>by simp[uses,ht])]
 case len k x=>rw[hx (x:=x) (fun t ht=>by simpa[uses]using ht)]
 case minmax b xs=>simp only[minmaxO,ints_congr (f:=f) (f':=f') (l:=xs) (fun t ht=>h t (by simpa[uses]using ht))]
end
end Go.AL
namespace Go.AL
open Go
theorem callee_congr{f f':EnvF}{op:IOp}(h:∀ t∈uses op,f t=f' t):calleeOf f op=calleeOf f' op:=by
 cases op<;>first|rfl|skip
 case call g args=>simp only[calleeOf,evs_congr (f:=f) (f':=f') (l:=args) (fun t ht=>h t (by simpa[uses]using ht))]
 case callN g args=>simp only[calleeOf,evs_congr (f:=f) (f':=f') (l:=args) (fun t ht=>h t (by simpa[uses]using ht))]
 case callv g args=>
  simp only[calleeOf,evs_congr (f:=f) (f':=f') (l:=args) (fun t ht=>h t (by simp[uses,ht])),ev_congr (f:=f) (f':=f') (x:=g) (fun t ht=>h t (by simp[uses,ht]))]
theorem fpR_congr{f f':EnvF}{op:IOp}(h:∀ t∈uses op,f t=f' t)(H:Heap):fpR f H op=fpR f' H op:=by
 have hx:∀ {x:X},(∀ t∈usesX x,t∈uses op)→ev f x=ev f' x:=fun hm=>ev_congr fun t ht=>h t (hm t ht)
 have hc:=callee_congr h
 cases op<;>simp only[fpR]<;>first|rfl|skip
 case ld1 x=>rw[hx (x:=x) (fun t ht=>by simpa[uses]using ht)]
 case ldN n x=>rw[hx (x:=x) (fun t ht=>by simpa[uses]using ht)]
 case b2s x=>rw[hx (x:=x) (fun t ht=>by simpa[uses]using ht)]
 case st1 a x=>rw[hx (x:=a) (fun t ht=>by simp[uses,ht])]
 case stN n a x=>rw[hx (x:=a) (fun t ht=>by simp[uses,ht])]
 case lookup kk z ok m k=>rw[hx (x:=m) (fun t ht=>by simp[uses,ht])]
 case mapUpd kk m k x=>rw[hx (x:=m) (fun t ht=>by simp[uses,ht])]
 case app t sz by' x y=>rw[hx (x:=x) (fun t ht=>by simp[uses,ht]),hx (x:=y) (fun t ht=>by simp[uses,ht])]
 case copy sz x y=>rw[hx (x:=x) (fun t ht=>by simp[uses,ht]),hx (x:=y) (fun t ht=>by simp[uses,ht])]
 case len k x=>cases k<;>simp only[fpR]<;>rw[hx (x:=x) (fun t ht=>by simpa[uses]using ht)]
 case call g args=>rw[evs_congr (f:=f) (f':=f') (l:=args) (fun t ht=>h t (by simpa[uses]using ht))]
 case callN g args=>rw[evs_congr (f:=f) (f':=f') (l:=args) (fun t ht=>h t (by simpa[uses]using ht))]
 case callv g args=>rw[hc]
section
variable{H1 H2:Heap}
theorem rowAt_alike{v:Nat}(h:H1[v]? = H2[v]?)(g:Nat):rowAt H1 v g=rowAt H2 v g:=by simp only[rowAt,h]
theorem mapAt_alike{v:Nat}(h:H1[v]? = H2[v]?):mapAt H1 v=mapAt H2 v:=by simp only[mapAt,h]
theorem rowAt_cells{v o n:Nat}(h:Alike (v,some (o,n)) H1 H2)(g:Nat) :
  (rowAt H1 v g=none∧rowAt H2 v g=none)∨∃ t cs ds,rowAt H1 v g=some (t,cs)∧rowAt H2 v g=some (t,ds)∧cs.length=ds.length∧∀ i,o≤i→i<o+n→cs[i]? = ds[i]? := by
 rcases h with h|⟨t,g',cs,ds,h1,h2,h3,h4⟩
 ·rw[rowAt_alike h g]
  cases hr:rowAt H2 v g with
  | none=>exact .inl ⟨rfl,rfl⟩
  | some p=>exact .inr ⟨p.1,p.2,p.2,rfl,rfl,rfl,fun _ _ _=>rfl⟩
 ·by_cases e:g'=g
  ·exact .inr ⟨t,cs,ds,by simp[rowAt,h1,e],by simp[rowAt,h2,e],h3,h4⟩
  ·exact .inl ⟨by simp[rowAt,h1,e],by simp[rowAt,h2,e]⟩
theorem sliceCells_alike{sz:Nat}{d:D}(h:AlikeL (wholeOf d) H1 H2):sliceCells sz H1 d=sliceCells sz H2 d:=by
 unfold sliceCells
 split<;>first|rfl|skip
 rename_i v g sz' off len
 have:=h (v,none) (by simp[wholeOf])
 rw[rowAt_alike this]
theorem AlikeL.left{a b:List Fp}(h:AlikeL (a++b) H1 H2):AlikeL a H1 H2:=fun x hx=>h x (List.mem_append_left _ hx)
theorem AlikeL.right{a b:List Fp}(h:AlikeL (a++b) H1 H2):AlikeL b H1 H2:=fun x hx=>h x (List.mem_append_right _ hx)
theorem aopO_local{f:EnvF}{op:IOp}(h:AlikeL (fpR f H1 op) H1 H2)(n:Nat):aopO f H1 n op=aopO f H2 n op:=by
 cases op<;>simp only[aopO]<;>first|rfl|skip
 case ld1 x=>
  congr 1
  simp only[fpR]at h
  unfold ld1O
  split<;>first|rfl|skip
  rename_i v g o hx
  rw[hx]at h
  rcases rowAt_cells (h (v,some (o,1)) (by simp[cellsFp])) g with⟨e1,e2⟩|⟨t,cs,ds,e1,e2,e3,e4⟩
  ·rw[e1,e2]
  ·rw[e1,e2];exact e4 o (Nat.le_refl _) (by omega)
 case ldN m x=>
  congr 1
  simp only[fpR]at h
  unfold ldNO
  split<;>first|rfl|skip
  rename_i v g o hx
  rw[hx]at h
  rcases rowAt_cells (h (v,some (o,m)) (by simp[cellsFp])) g with⟨e1,e2⟩|⟨t,cs,ds,e1,e2,e3,e4⟩
  ·rw[e1,e2]
  ·rw[e1,e2]
   have:(cs.drop o).take m=(ds.drop o).take m:=by
    apply List.ext_getElem?
    intro i
    simp only[List.getElem?_take,List.getElem?_drop]
    split
    ·exact e4 _ (by omega) (by omega)
    ·rfl
   simp only[e3,this]
 case st1 a x=>
  simp only[fpR]at h
  unfold st1O
  split<;>first|rfl|skip
  rename_i v g o hx
  rw[hx]at h
  rcases rowAt_cells (h (v,some (o,1)) (by simp[cellsFp])) g with⟨e1,e2⟩|⟨t,cs,ds,e1,e2,e3,e4⟩
  ·rw[e1,e2]
  ·rw[e1,e2];simp only[e3]
 case stN m a x=>
  simp only[fpR]at h
  unfold stNO
  split<;>first|rfl|skip
  rename_i v g o xs hx _
  rw[hx]at h
  rcases rowAt_cells (h (v,some (o,m)) (by simp[cellsFp])) g with⟨e1,e2⟩|⟨t,cs,ds,e1,e2,e3,e4⟩
  ·rw[e1,e2]
  ·rw[e1,e2];simp only[e3]
 case lookup kk z ok m k=>
  congr 1
  simp only[fpR]at h
  unfold lookupO
  split<;>first|rfl|skip
  rename_i v kv hx _
  rw[hx]at h
  rw[mapAt_alike (h (v,none) (by simp[wholeOf]))]
 case mapUpd kk m k x=>
  simp only[fpR]at h
  unfold mapUpdO
  split<;>first|rfl|skip
  rename_i v kv hx _
  rw[hx]at h
  rw[mapAt_alike (h (v,none) (by simp[wholeOf]))]
 case b2s x=>
  congr 1
  simp only[fpR]at h
  unfold b2sO
  rw[sliceCells_alike (sz:=1) h]
 case len k x=>
  congr 1
  unfold lenO
  split<;>first|rfl|skip
  rename_i v hx
  simp only[fpR]at h
  rw[hx]at h
  rw[mapAt_alike (h (v,none) (by simp[wholeOf]))]
 case app t sz by' x y=>
  simp only[fpR]at h
  unfold appO
  rw[sliceCells_alike (sz:=sz) h.right]
  split<;>first|rfl|skip
  split<;>first|rfl|skip
  rename_i v g sz' len hx
  rw[hx]at h
  rw[rowAt_alike (h (v,none) (by simp[wholeOf]))]
 case copy sz x y=>
  simp only[fpR]at h
  unfold copyO
  rw[sliceCells_alike (sz:=sz) h.right]
  split<;>first|rfl|skip
  rename_i v g sz' off len ys n hx _
  rw[hx]at h
  rw[rowAt_alike (h (v,none) (by simp[wholeOf]))]
theorem rowAt_rows(H:Heap)(v g:Nat):rowAt H v g=match rowsOf H v with|some (t,g',cs)=>if g'=g then some (t,cs)else none|none=>none:=by
 unfold rowAt rowsOf
 cases H[v]? with
 | none=>rfl
 | some o=>cases o<;>rfl
theorem refs_local:∀ (k:Nat) (d:D),(∀ v∈refsD H1 k d,rowsOf H1 v=rowsOf H2 v)→refsD H2 k d=refsD H1 k d∧shed (fun _=>none) H2 k d=shed (fun _=>none) H1 k d
 | 0,d,_=>⟨rfl,rfl⟩
 | k+1,d,h=>by
  have lst:∀ (ds:List D),(∀ v∈(ds.map (refsD H1 k)).flatten,rowsOf H1 v=rowsOf H2 v)→ds.map (refsD H2 k)=ds.map (refsD H1 k)∧ds.map (shed (fun _=>none) H2 k)=ds.map (shed (fun _=>none) H1 k):=by
   intro ds hds
   have h1:∀ d∈ds,∀ v∈refsD H1 k d,rowsOf H1 v=rowsOf H2 v:=fun d hd v hv=>hds v (List.mem_flatten.2 ⟨_,List.mem_map.2 ⟨d,hd,rfl⟩,hv⟩)
   exact⟨List.map_congr_left fun d hd=>(refs_local k d (h1 d hd)).1,List.map_congr_left fun d hd=>(refs_local k d (h1 d hd)).2⟩
  unfold refsD at h
  unfold refsD shed
  by_cases hc:closed d=true
  ·simp only[if_pos hc,and_self]
  ·simp only[if_neg hc]at h ⊢
   cases d with
   | agg cs=>obtain⟨a,b⟩:=lst cs h;simp only[a,b,and_self]
   | tup cs=>obtain⟨a,b⟩:=lst cs h;simp only[a,b,and_self]
   | fptr cs=>obtain⟨a,b⟩:=lst cs h;simp only[a,b,and_self]
   | sl sz es=>
    have h1:∀ e∈es,e.map (refsD H2 k)=e.map (refsD H1 k)∧e.map (shed (fun _=>none) H2 k)=e.map (shed (fun _=>none) H1 k):=fun e he=>lst e fun v hv=>h v (List.mem_flatten.2 ⟨_,List.mem_map.2 ⟨e,he,rfl⟩,hv⟩)
    have a:es.map (fun e=>(e.map (refsD H2 k)).flatten)=es.map (fun e=>(e.map (refsD H1 k)).flatten):=List.map_congr_left fun e he=>by rw[(h1 e he).1]
    have b:es.map (fun x=>x.map (shed (fun _=>none) H2 k))=es.map (fun x=>x.map (shed (fun _=>none) H1 k)):=List.map_congr_left fun e he=>(h1 e he).2
    simp only[a,b,and_self]
   | fn g x y=>
    obtain⟨a,b⟩:=lst x fun v hv=>h v (List.mem_append_left _ hv)
    obtain⟨a',b'⟩:=lst y fun v hv=>h v (List.mem_append_right _ hv)
    simp only[a,b,a',b',and_self]
   | osl v g sz off len=>
    have hv:rowsOf H1 v=rowsOf H2 v:=h v (by simp)
    simp only[rowAt_rows,← hv]
    cases hrow:rowsOf H1 v with
    | none=>exact⟨rfl,rfl⟩
    | some p=>
     obtain⟨t,g',cs⟩:=p
     obtain⟨l1,l2⟩:=lst cs fun u hu=>h u (by simp only[hrow];exact List.mem_cons_of_mem _ hu)
     refine⟨by simp only[l1],?_⟩
     by_cases hg:g'=g
     ·simp only[hg,if_true,List.map_drop,l2]
     ·simp only[if_neg hg]
   | ptr v g off=>
    have hv:rowsOf H1 v=rowsOf H2 v:=h v (by simp)
    simp only[rowAt_rows,← hv]
    cases hrow:rowsOf H1 v with
    | none=>exact⟨rfl,rfl⟩
    | some p=>
     obtain⟨t,g',cs⟩:=p
     obtain⟨l1,l2⟩:=lst cs fun u hu=>h u (by simp only[hrow];exact List.mem_cons_of_mem _ hu)
     refine⟨by simp only[l1],?_⟩
     by_cases hg:g'=g
     ·simp only[hg,if_true,List.map_drop,l2]
     ·simp only[if_neg hg]
   | _=>exact⟨rfl,rfl⟩
end
end Go.AL
