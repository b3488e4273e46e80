/- Part 9 of the proof of skewer.skewerlaw15.TableSlices. -/
import Derived.Test.YtnaefnajkaohgaaGreatDoorC08
set_option linter.all false
namespace Go.AL
open Go
universe u
inductive Tag{α:Sort u}(a:α):Type
 | mk
def oA{α:Type}(x:Option α)(P:α→Prop)(_:Tag P):Prop:=∃ a,x=some a∧P a
@[simp] theorem oA_some{α:Type}(a:α)(P:α→Prop):oA (some a) P .mk=P a:=by simp[oA]
@[simp] theorem oA_none{α:Type}(P:α→Prop):oA none P .mk=False:=by simp[oA]
@[simp high] theorem oA_iteN{α:Type}{c:Prop}[Decidable c](x:Option α)(P:α→Prop):oA (if c then x else none) P .mk=(c∧oA x P .mk):=by
 by_cases h:c<;>simp[h]
@[simp] theorem oA_ite{α:Type}{c:Prop}[Decidable c](x y:Option α)(P:α→Prop):oA (if c then x else y) P .mk=((c→oA x P .mk)∧(¬c→oA y P .mk)):=by
 by_cases h:c<;>simp[h]
@[simp] theorem oA_lift(x:Option D)(P:D×Dl→Prop):oA (lift x) P .mk=oA x (fun d=>P (d,.no)) .mk:=by
 cases x<;>simp[lift]
@[simp] theorem oA_bind{α β:Type}(x:Option α)(f:α→Option β)(P:β→Prop):oA (x.bind f) P .mk=oA x (fun a=>oA (f a) P .mk) .mk:=by
 cases x<;>simp
def gB:D→Bool→Option Bool
 | .val (.bool b),want=>some (b == want)
 | .val (.tuple _),_=>some false
 | _,_=>none
@[simp] theorem gB_u(want:Bool):gB (.val undef) want=some false:=rfl
@[simp] theorem gB_t(x:Bool):gB (.b x) true=some x:=by cases x<;>rfl
@[simp] theorem gB_f(x:Bool):gB (.b x) false=some (!x):=by cases x<;>rfl
@[simp] theorem guardOf_some(f:EnvF)(j:Nat)(w:Bool):guardOf f (some (j,w))=gB (f j) w:=by
 show(match f j with | .val (.bool b)=>some (b == w) | .val (.tuple _)=>some false|_=>none)=gB (f j) w
 unfold gB;split<;>simp_all
@[simp] theorem ev_t(f:EnvF)(k:Nat):ev f (.t k)=f k:=rfl
@[simp] theorem ev_c(f:EnvF)(d:D):ev f (.c d)=d:=rfl
@[simp] theorem put_some(env:Env)(k:Nat)(d:D):put env (some k) d=(k,d)::env:=rfl
@[simp] theorem put_none(env:Env)(d:D):put env none d=env:=rfl
@[simp] theorem app_no(H:Heap)(al:Al):Dl.no.app H al=H:=rfl
@[simp] theorem app_new(H:Heap)(al:Al)(ob:Ob):(Dl.new ob).app H al=al.2 ob:=rfl
@[simp] theorem app_obj(H:Heap)(al:Al)(v:Nat)(ob:Ob):(Dl.obj v ob).app H al=H.set v ob:=rfl
def setCells(H:Heap)(v o:Nat)(xs:List D):Option Ob→Heap
 | some (.row t g cs)=>H.set v (.row t g (cs.take o++xs++cs.drop (o+xs.length)))
 | _=>H
@[simp] theorem app_cells(H:Heap)(al:Al)(v o:Nat)(xs:List D):(Dl.cells v o xs).app H al=setCells H v o xs H[v]? := by
 show(match H[v]? with|some (.row t g cs)=>H.set v (.row t g (cs.take o++xs++cs.drop (o+xs.length)))|_=>H)=_
 unfold setCells;split<;>simp_all
@[simp] theorem setCells_row(H:Heap)(v o:Nat)(xs:List D)(t g:Nat)(cs:List D):setCells H v o xs (some (.row t g cs))=H.set v (.row t g (cs.take o++xs++cs.drop (o+xs.length))):=rfl
def shlK(k:IntKind)(a b:Int):Int:=k.wrap (a*2 ^ (min b.toNat k.bits))
def shrK(k:IntKind)(a b:Int):Int:=a.fdiv (2 ^ (min b.toNat k.bits))
section
variable{k:IntKind}{a b:Int}
@[simp] theorem bin_add:binO .add (.val (.int k a)) (.val (.int k b))=arithO .add k a b:=by simp[binO,isShift]
@[simp] theorem bin_sub:binO .sub (.val (.int k a)) (.val (.int k b))=arithO .sub k a b:=by simp[binO,isShift]
@[simp] theorem bin_mul:binO .mul (.val (.int k a)) (.val (.int k b))=arithO .mul k a b:=by simp[binO,isShift]
@[simp] theorem bin_quo:binO .quo (.val (.int k a)) (.val (.int k b))=arithO .quo k a b:=by simp[binO,isShift]
@[simp] theorem bin_rem:binO .rem (.val (.int k a)) (.val (.int k b))=arithO .rem k a b:=by simp[binO,isShift]
@[simp] theorem bin_and:binO .and (.val (.int k a)) (.val (.int k b))=some (.val (.int k (bits .and k a b))):=by simp[binO,isShift,arithO]
@[simp] theorem bin_andNot:binO .andNot (.val (.int k a)) (.val (.int k b))=some (.val (.int k (bits .andNot k a b))):=by simp[binO,isShift,arithO]
@[simp] theorem bin_eql:binO .eql (.val (.int k a)) (.val (.int k b))=some (.b (decide (a=b))):=by simp[binO,isShift,arithO,BEq.beq]
@[simp] theorem bin_neq:binO .neq (.val (.int k a)) (.val (.int k b))=some (.b (!decide (a=b))):=by simp[binO,isShift,arithO,bne,BEq.beq]
@[simp] theorem bin_lss:binO .lss (.val (.int k a)) (.val (.int k b))=some (.b (decide (a<b))):=by simp[binO,isShift,arithO]
@[simp] theorem bin_leq:binO .leq (.val (.int k a)) (.val (.int k b))=some (.b (decide (a≤b))):=by simp[binO,isShift,arithO]
@[simp] theorem bin_gtr:binO .gtr (.val (.int k a)) (.val (.int k b))=some (.b (decide (a>b))):=by simp[binO,isShift,arithO]
@[simp] theorem bin_geq:binO .geq (.val (.int k a)) (.val (.int k b))=some (.b (decide (a≥b))):=by simp[binO,isShift,arithO]
@[simp] theorem bin_shl{k2:IntKind}:binO .shl (.val (.int k a)) (.val (.int k2 b))=if 0≤b then some (.val (.int k (shlK k a b)))else none:=rfl
@[simp] theorem bin_shr{k2:IntKind}:binO .shr (.val (.int k a)) (.val (.int k2 b))=if 0≤b then some (.val (.int k (shrK k a b)))else none:=rfl
@[simp] theorem bin_str(op:BinOp)(s t:ByteArray):binO op (.val (.string s)) (.val (.string t))=strO op s t:=rfl
@[simp] theorem un_not(x:Bool):unO .not (.b x)=some (.b !x):=rfl
@[simp] theorem un_neg(n:Int):unO .neg (.i n)=if inI64 (-n)then some (.i (-n))else none:=rfl
@[simp] theorem conv_int(k':IntKind):convO k' (.val (.int k a))=some (.val (.int k' (k'.wrap a))):=rfl
end
@[simp] theorem fieldA_ptr(off v g o:Nat):fieldAO off (.ptr v g o)=some (.ptr v g (o+off)):=rfl
@[simp] theorem fieldA_fptr(off:Nat)(cs:List D):fieldAO off (.fptr cs)=some (.fptr (cs.drop off)):=rfl
@[simp] theorem field_agg(off n:Nat)(cs:List D):fieldO off n true (.agg cs)=if off+n≤cs.length then some (.agg ((cs.drop off).take n))else none:=rfl
@[simp] theorem field_one(off n:Nat)(cs:List D):fieldO off n false (.agg cs)=cs[off]? := rfl
@[simp] theorem ext_tup(ds:List D)(i:Nat):extO (.tup ds) i=ds[i]? := rfl
@[simp] theorem nilck_ptr(v g o:Nat):nilckO (.ptr v g o)=some (.ptr v g o):=rfl
@[simp] theorem nilck_fptr(cs:List D):nilckO (.fptr cs)=some (.fptr cs):=rfl
def rowOf(k:Nat):Option Ob→Option (TypeId×List D)
 | some (.row t g cs)=>if g=k then some (t,cs)else none
 | _=>none
@[simp] theorem rowAt_def(H:Heap)(v k:Nat):rowAt H v k=rowOf k H[v]? := by
 unfold rowAt rowOf;split<;>simp_all
@[simp] theorem rowOf_row(k:Nat)(t:TypeId)(g:Nat)(cs:List D):rowOf k (some (.row t g cs))=if g=k then some (t,cs)else none:=rfl
@[simp] theorem ld1_ptr(v g o:Nat)(H:Heap):ld1O (.ptr v g o) H=(rowAt H v g).bind fun p=>p.2[o]? := by
 show(match rowAt H v g with|some (_,cs)=>cs[o]? | none=>none)=_
 cases rowAt H v g<;>rfl
@[simp] theorem ld1_fptr(cs:List D)(H:Heap):ld1O (.fptr cs) H=cs[0]? := rfl
def ldR(n o:Nat):Option (TypeId×List D)→Option D
 | some p=>if o+n≤p.2.length then some (.agg ((p.2.drop o).take n))else none
 | none=>none
@[simp low] theorem ldR_some(n o:Nat)(p:TypeId×List D):ldR n o (some p)=if o+n≤p.2.length then some (.agg ((p.2.drop o).take n))else none:=rfl
@[simp] theorem ldN_ptr(n v g o:Nat)(H:Heap):ldNO n (.ptr v g o) H=ldR n o (rowAt H v g):=by
 show(match rowAt H v g with|some (_,cs)=>if o+n≤cs.length then some (D.agg ((cs.drop o).take n))else none|none=>none)=_
 cases rowAt H v g<;>rfl
@[simp] theorem ldN_fptr(n:Nat)(cs:List D)(H:Heap):ldNO n (.fptr cs) H=if n≤cs.length then some (.agg (cs.take n))else none:=rfl
@[simp] theorem st1_ptr(v g o:Nat)(x:D)(H:Heap):st1O (.ptr v g o) x H=(rowAt H v g).bind fun p=>if o<p.2.length∧one x=true then some (.any,.cells v o [x])else none:=by
 show(match rowAt H v g with|some (_,cs)=>if o<cs.length∧one x=true then some (D.any,Dl.cells v o [x])else none|none=>none)=_
 cases rowAt H v g<;>rfl
@[simp] theorem stN_ptr(n v g o:Nat)(xs:List D)(H:Heap):stNO n (.ptr v g o) (.agg xs) H=(rowAt H v g).bind fun p=>if xs.length=n∧o+n≤p.2.length then some (.any,.cells v o xs)else none:=by
 show(match rowAt H v g with|some (_,cs)=>if xs.length=n∧o+n≤cs.length then some (D.any,Dl.cells v o xs)else none|none=>none)=_
 cases rowAt H v g<;>rfl
@[simp] theorem box_agg(t:TypeId)(cs:List D)(n:Nat):boxO t (.agg cs) n=some (.ptr n 0 0,.new (.row t 0 cs)):=rfl
@[simp] theorem cellsOf_agg(cs:List D):cellsOf (.agg cs)=some cs:=rfl
@[simp] theorem cellsOf_i(k:IntKind)(n:Int):cellsOf (.val (.int k n))=some [.val (.int k n)]:=rfl
@[simp] theorem cellsOf_b(b:Bool):cellsOf (.b b)=some [.b b]:=rfl
@[simp] theorem cellsOf_str(b:ByteArray):cellsOf (.val (.string b))=some [.val (.string b)]:=rfl
@[simp] theorem cellsOf_sl(sz:Nat)(es:List (List D)):cellsOf (.sl sz es)=some [.sl sz es]:=rfl
@[simp] theorem cellsOf_dI(l:List Int):cellsOf (dI l)=some [dI l]:=rfl
@[simp] theorem cellsOf_dPs(l:List Pos):cellsOf (dPs l)=some [dPs l]:=rfl
@[simp] theorem cellsOf_dProg(l:List Stp):cellsOf (dProg l)=some [dProg l]:=rfl
@[simp] theorem cellsOf_emp:cellsOf .emp=some [.emp]:=rfl
@[simp] theorem cellsOf_osl(v g sz off n:Nat):cellsOf (.osl v g sz off n)=some [.osl v g sz off n]:=rfl
@[simp] theorem cellsOf_fn(f:Fn)(a b:List D):cellsOf (.fn f a b)=some [.fn f a b]:=rfl
@[simp] theorem one_i(k:IntKind)(n:Int):one (.val (.int k n))=true:=rfl
@[simp] theorem one_b(b:Bool):one (.b b)=true:=rfl
@[simp] theorem one_dPs(l:List Pos):one (dPs l)=true:=rfl
@[simp] theorem one_emp:one .emp=true:=rfl
@[simp] theorem one_osl(v g sz off n:Nat):one (.osl v g sz off n)=true:=rfl
@[simp] theorem one_fn(f:Fn)(a b:List D):one (.fn f a b)=true:=rfl
@[simp] theorem build_def(f:EnvF)(z:List D)(ps:List (Nat×Nat×X)):buildO f z ps=(partsOf f ps).bind fun l=>(lay l z).bind fun cs=>some (D.agg cs):=by
 unfold buildO;cases partsOf f ps with
 | none=>rfl
 | some l=>simp only[Option.bind_some];cases lay l z<;>rfl
@[simp] theorem buildSl_def(f:EnvF)(t sz:Nat)(z:List D)(m:Nat)(ps:List (Nat×X))(n:Nat):buildSlO f t sz z m ps n=(partsOf f (ps.map fun p=>(p.1*sz,sz,p.2))).bind fun l=>(lay l (List.replicate m z).flatten).bind fun cs=>some (.osl n 0 sz 0 m,.new (.row t 0 cs)):=by
 unfold buildSlO;cases partsOf f (ps.map fun p=>(p.1*sz,sz,p.2))with
 | none=>rfl
 | some l=>simp only[Option.bind_some];cases lay l (List.replicate m z).flatten<;>rfl
@[simp] theorem parts_nil(f:EnvF):partsOf f []=some []:=rfl
@[simp] theorem parts_cons(f:EnvF)(o n:Nat)(x:X)(r:List (Nat×Nat×X)):partsOf f ((o,n,x)::r)=(cellsOf (ev f x)).bind fun cs=>(partsOf f r).bind fun l=>some ((o,n,cs)::l):=by
 show(match cellsOf (ev f x),partsOf f r with|some cs,some l=>some ((o,n,cs)::l)|_,_=>none)=_
 cases cellsOf (ev f x)<;>cases partsOf f r<;>rfl
@[simp] theorem idxA_osl(sz v g off len:Nat)(k:IntKind)(n:Int):idxAO sz (.osl v g sz off len) (.val (.int k n))=if 0≤n∧n<len then some (.ptr v g ((off+n.toNat)*sz))else none:=by
 simp[idxAO]
@[simp] theorem idxArr_ptr(sz n v g o:Nat)(k:IntKind)(i:Int):idxArrO sz n (.ptr v g o) (.val (.int k i))=if 0≤i∧i<n then some (.ptr v g (o+i.toNat*sz))else none:=rfl
@[simp] theorem idxArr_fptr(sz n:Nat)(cs:List D)(k:IntKind)(i:Int):idxArrO sz n (.fptr cs) (.val (.int k i))=if 0≤i∧i<n then some (.fptr (cs.drop (i.toNat*sz)))else none:=rfl
@[simp] theorem bound_none(f:EnvF)(n:Int):boundOf f none n=some n:=rfl
def intD:D→Option Int
 | .val (.int _ n)=>some n
 | _=>none
@[simp] theorem intD_int(k:IntKind)(n:Int):intD (.val (.int k n))=some n:=rfl
@[simp] theorem bound_some(f:EnvF)(x:X)(n:Int):boundOf f (some x) n=intD (ev f x):=by
 show(match ev f x with | .val (.int _ n)=>some n|_=>none)=_
 unfold intD;split<;>simp_all
@[simp] theorem slc_sl(f:EnvF)(sz:Nat)(es:List (List D))(lo hi:Option X):slcO f sz (.sl sz es) lo hi=(boundOf f lo 0).bind fun l=>(boundOf f hi es.length).bind fun h=>if 0≤l∧l≤h∧h≤es.length then some (.sl sz ((es.drop l.toNat).take (h.toNat-l.toNat)))else none:=by
 simp only[slcO]
 cases boundOf f lo 0<;>cases boundOf f hi es.length<;>simp
@[simp] theorem slc_osl(f:EnvF)(sz v g off len:Nat)(lo hi:Option X):slcO f sz (.osl v g sz off len) lo hi=(boundOf f lo 0).bind fun l=>(boundOf f hi len).bind fun h=>if 0≤l∧l≤h∧h≤len then some (.osl v g sz (off+l.toNat) (h.toNat-l.toNat))else none:=by
 simp only[slcO]
 cases boundOf f lo 0<;>cases boundOf f hi len<;>simp
@[simp] theorem slc_emp(f:EnvF)(sz:Nat)(lo hi:Option X):slcO f sz .emp lo hi=(boundOf f lo 0).bind fun l=>(boundOf f hi 0).bind fun h=>if l=0∧h=0 then some .emp else none:=by
 simp only[slcO]
 cases boundOf f lo 0<;>cases boundOf f hi 0<;>simp
theorem slc_map{α:Type}(f:α→List D)(l:List α)(a b:Nat):((l.map f).drop a).take b=((l.drop a).take b).map f:=by rw[List.map_take,List.map_drop]
@[simp] theorem slc_dPs(f:EnvF)(l:List Pos)(lo hi:Option X):slcO f 5 (dPs l) lo hi=(boundOf f lo 0).bind fun a=>(boundOf f hi l.length).bind fun h=>if 0≤a∧a≤h∧h≤l.length then some (dPs ((l.drop a.toNat).take (h.toNat-a.toNat)))else none:=by
 unfold dPs;rw[slc_sl,List.length_map];simp only[slc_map]
@[irreducible] def cl{α:Type}(f:α→List D)(l:List α):List D:=(l.map f).flatten
theorem cl_def{α:Type}(f:α→List D)(l:List α):cl f l=(l.map f).flatten:=by rw[cl]
@[simp] theorem slcs_sl(sz:Nat)(H:Heap)(es:List (List D)):sliceCells sz H (.sl sz es)=some (es.flatten,es.length):=by simp[sliceCells]
@[simp] theorem slcs_slm{α:Type}(sz:Nat)(f:α→List D)(H:Heap)(l:List α):sliceCells sz H (.sl sz (l.map f))=some (cl f l,l.length):=by
 rw[slcs_sl,List.length_map,cl_def]
@[simp] theorem slcs_dI(H:Heap)(l:List Int):sliceCells 1 H (dI l)=some (cl f1 l,l.length):=by unfold dI;exact slcs_slm ..
@[simp] theorem slcs_dPs(H:Heap)(l:List Pos):sliceCells 5 H (dPs l)=some (cl Pos.cells l,l.length):=by unfold dPs;exact slcs_slm ..
@[simp] theorem slcs_dProg(H:Heap)(l:List Stp):sliceCells 2 H (dProg l)=some (cl fS l,l.length):=by unfold dProg;exact slcs_slm ..
@[simp] theorem slcs_dN{α:Type}(sz:Nat)(f:α→List D)(H:Heap)(l:List α):sliceCells sz H (dN sz f l)=some (cl f l,l.length):=by
 cases l with
 | nil=>show some ([],0)=_;rw[cl_def];rfl
 | cons a l=>exact slcs_slm sz f H (a::l)
@[simp] theorem slcs_emp(sz:Nat)(H:Heap):sliceCells sz H .emp=some ([],0):=rfl
@[simp] theorem slcs_osl(sz:Nat)(H:Heap)(v g off len:Nat):sliceCells sz H (.osl v g sz off len)=(rowAt H v g).bind fun p=>if (off+len)*sz≤p.2.length then some ((p.2.drop (off*sz)).take (len*sz),len)else none:=by
 simp only[sliceCells]
 cases rowAt H v g<;>simp
@[simp] theorem app_osl(t sz bytes v g len:Nat)(y:D)(H:Heap)(vn:Nat):appO t sz bytes (.osl v g sz 0 len) y H vn=(sliceCells sz H y).bind fun q=>(rowAt H v g).bind fun r=>if r.1=t∧len*sz≤r.2.length∧(len+q.2)*bytes≤140737488355328∧len+q.2≤9223372036854775807 then some (.osl v (g+1) sz 0 (len+q.2),.obj v (.row t (g+1) (r.2.take (len*sz)++q.1)))else none:=by
 simp only[appO]
 cases sliceCells sz H y with
 | none=>rfl
 | some q=>cases rowAt H v g<;>simp
@[simp] theorem app_emp(t sz bytes:Nat)(y:D)(H:Heap)(vn:Nat):appO t sz bytes .emp y H vn=(sliceCells sz H y).bind fun q=>if q.2=0 then some (.emp,.no)else if q.2*bytes≤140737488355328∧q.2≤9223372036854775807 then some (.osl vn 0 sz 0 q.2,.new (.row t 0 q.1))else none:=by
 simp only[appO]
 cases sliceCells sz H y<;>rfl
@[simp] theorem mksl_def(t sz bytes:Nat)(z:List D)(k k':IntKind)(n m:Int)(v:Nat):mkslO t sz bytes z (.val (.int k n)) (.val (.int k' m)) v=if 0≤n∧n≤m∧leK m 9223372036854775807∧leK ((bytes:Int)*m) 281474976710656 then some (.osl v 0 sz 0 n.toNat,.new (.row t 0 (List.replicate m.toNat z).flatten))else none:=rfl
@[simp] theorem leK_def(n:Int)(k:Nat):leK n k=(n≤(k:Int)):=rfl
@[simp] theorem ints_nil(f:EnvF):intsOf f []=some []:=rfl
def i64D:D→Option Int
 | .val (.int .i64 n)=>some n
 | _=>none
@[simp] theorem i64D_i(n:Int):i64D (.i n)=some n:=rfl
@[simp] theorem ints_cons(f:EnvF)(x:X)(r:List X):intsOf f (x::r)=(i64D (ev f x)).bind fun n=>(intsOf f r).bind fun l=>some (n::l):=by
 show(match ev f x,intsOf f r with | .val (.int .i64 n),some l=>some (n::l)|_,_=>none)=_
 unfold i64D
 split
 ·rename_i h1 h2;rw[h1,h2];rfl
 ·rename_i h
  split
  ·rename_i n hn
   cases hl:intsOf f r with
   | none=>rfl
   | some l=>exact absurd hl (h _ _ hn)
  ·rfl
def mmO(isMax:Bool):List Int→Option D
 | [a,b]=>some (.i (if isMax then max a b else min a b))
 | [a,b,c]=>some (.i (if isMax then max (max a b) c else min (min a b) c))
 | _=>none
@[simp] theorem mm2(m:Bool)(a b:Int):mmO m [a,b]=some (.i (if m then max a b else min a b)):=rfl
@[simp] theorem minmax_def(f:EnvF)(m:Bool)(xs:List X):minmaxO f m xs=(intsOf f xs).bind (mmO m):=by
 unfold minmaxO
 cases intsOf f xs with
 | none=>rfl
 | some l=>simp only[Option.bind_some];unfold mmO;split<;>simp_all
def calleeD(args:List D):D→Option (FuncId×List D)
 | .fn (.func k) first cap=>some (k,first++args++cap)
 | _=>none
@[simp] theorem calleeD_fn(args:List D)(k:FuncId)(first cap:List D):calleeD args (.fn (.func k) first cap)=some (k,first++args++cap):=rfl
@[simp] theorem callee_callv(f:EnvF)(g:X)(args:List X):calleeOf f (.callv g args)=calleeD (args.map (ev f)) (ev f g):=by
 show(match ev f g with | .fn (.func k) first cap=>some (k,first++args.map (ev f)++cap)|_=>none)=_
 unfold calleeD;split<;>simp_all
def lookR(z:D)(ok:Bool):Option D→D
 | some d=>if ok then .tup [d,.b true]else d
 | none=>if ok then .tup [z,.b false]else z
@[simp] theorem lookR_some(z:D)(ok:Bool)(d:D):lookR z ok (some d)=if ok then .tup [d,.b true]else d:=rfl
@[simp] theorem lookR_none(z:D)(ok:Bool):lookR z ok none=if ok then .tup [z,.b false]else z:=rfl
@[simp] theorem lookup_def(kk:KK)(z:D)(ok:Bool)(v:Nat)(k:D)(H:Heap):lookupO kk z ok (.omap v) k H=(keyOf k).bind fun kv=>(mapAt H v).bind fun p=>if p.1=kk∧p.1.has kv=true then some (lookR z ok (mapGet p.2 kv))else none:=by
 unfold lookupO
 cases keyOf k with
 | none=>rfl
 | some kv=>
  cases h:mapAt H v with
  | none=>simp[h]
  | some p=>
   simp only[h,Option.bind_some]
   split
   ·cases mapGet p.2 kv<;>rfl
   ·rfl
@[simp] theorem mapUpd_def(kk:KK)(v:Nat)(k x:D)(H:Heap):mapUpdO kk (.omap v) k x H=(keyOf k).bind fun kv=>(mapAt H v).bind fun p=>if p.1=kk∧p.1.has kv=true then some (.any,.obj v (.map p.1 (mapSet p.2 kv x)))else none:=by
 unfold mapUpdO
 cases keyOf k with
 | none=>rfl
 | some kv=>cases h:mapAt H v<;>simp[h]
def mapOf:Option Ob→Option (KK×List (Value×D))
 | some (.map kk es)=>some (kk,es)
 | _=>none
@[simp] theorem mapOf_map(kk:KK)(es:List (Value×D)):mapOf (some (.map kk es))=some (kk,es):=rfl
@[simp] theorem mapAt_def(H:Heap)(v:Nat):mapAt H v=mapOf H[v]? := by
 unfold mapAt mapOf;split<;>simp_all
@[simp] theorem keyOf_str(s:ByteArray):keyOf (.val (.string s))=some (.string s):=rfl
@[simp] theorem keyOf_b(b:Bool):keyOf (.b b)=some (.bool b):=rfl
@[simp] theorem keyOf_i(k:IntKind)(n:Int):keyOf (.val (.int k n))=some (.int k n):=rfl
@[simp] theorem lenO_map(v:Nat)(H:Heap):lenO .map (.omap v) H=(mapAt H v).bind fun p=>some (.i p.2.length):=by
 simp only[lenO]
 cases mapAt H v<;>rfl
@[simp] theorem eqS_one(ls:List Leaf)(neg:Bool)(x y:D):eqO false ls neg x y=(cellsEq ls [x] [y]).bind fun r=>some (.b (if neg then !r else r)):=by
 simp only[eqO]
 cases cellsEq ls [x] [y]<;>rfl
@[simp] theorem eqS_agg(ls:List Leaf)(neg:Bool)(x y:List D):eqO true ls neg (.agg x) (.agg y)=(cellsEq ls x y).bind fun r=>some (.b (if neg then !r else r)):=by
 simp only[eqO]
 cases cellsEq ls x y<;>rfl
@[simp] theorem cellsEq_nil:cellsEq [] [] []=some true:=rfl
@[simp] theorem cellsEq_cons(l:Leaf)(ls:List Leaf)(x y:D)(xs ys:List D):cellsEq (l::ls) (x::xs) (y::ys)=(cellEq l x y).bind fun a=>(cellsEq ls xs ys).bind fun b=>some (a&&b):=by
 show(match cellEq l x y,cellsEq ls xs ys with|some a,some b=>some (a&&b)|_,_=>none)=_
 cases cellEq l x y<;>cases cellsEq ls xs ys<;>rfl
@[simp] theorem cellEq_i(a b:Int):cellEq .int (.i a) (.i b)=some (decide (a=b)):=by simp[cellEq,BEq.beq]
@[simp] theorem cellEq_b(a b:Bool):cellEq .bool (.b a) (.b b)=some (a == b):=rfl
attribute [simp] aopO kill resAll resOf fpR fpW cellsFp prsOK apartL apart1 sopO nilSO lay Al.last mapGet mapSet keyEq KK.has closedL
@[simp] theorem whole_osl(v g sz off n:Nat):wholeOf (.osl v g sz off n) = [(v,none)]:=rfl
@[simp] theorem whole_emp:wholeOf .emp = []:=rfl
@[simp] theorem whole_dI(l:List Int):wholeOf (dI l) = []:=by unfold dI;rfl
def XB(d:D)(P Q:Prop)(_:Tag (PProd.mk P Q)):Prop:=∃ x,d = .b x∧(x=true→P)∧(x=false→Q)
def X2(x:Bool)(P Q:Prop)(_:Tag (PProd.mk P Q)):Prop:=(x=true→P)∧(x=false→Q)
@[simp] theorem X2_t(P Q:Prop):X2 true P Q .mk=P:=by simp[X2]
@[simp] theorem X2_f(P Q:Prop):X2 false P Q .mk=Q:=by simp[X2]
@[simp] theorem X2_n(x:Bool)(P Q:Prop):X2 (!x) P Q .mk=X2 x Q P .mk:=by cases x<;>simp[X2]
@[simp] theorem X2_nn(x y:Bool)(P Q:Prop):X2 (!x || !y) P Q .mk=X2 (x&&y) Q P .mk:=by cases x<;>cases y<;>simp[X2]
theorem X2.d{p:Prop}[Decidable p]{P Q:Prop}(h:p→P)(k:¬p→Q):X2 (decide p) P Q .mk:=⟨fun e=>h (of_decide_eq_true e),fun e=>k (of_decide_eq_false e)⟩
theorem X2.a{p q:Prop}[Decidable p][Decidable q]{P Q:Prop}(h:p→q→P)(k:¬(p∧q)→Q):X2 (decide p&&decide q) P Q .mk:=by
 rw[← Bool.decide_and];exact X2.d (fun e=>h e.1 e.2) k
theorem X2.o{p q:Prop}[Decidable p][Decidable q]{P Q:Prop}(h:p∨q→P)(k:¬(p∨q)→Q):X2 (decide p||decide q) P Q .mk:=by
 rw[← Bool.decide_or];exact X2.d h k
theorem X2.z{p:Prop}[Decidable p]{P Q:Prop}(h:¬p)(k:Q):X2 (decide p) P Q .mk:=X2.d (fun n=>absurd n h) (fun _=>k)
@[simp] theorem XB_c(x:Bool)(a b:D)(P Q:Prop):XB (bif x then a else b) P Q .mk=X2 x (XB a P Q .mk) (XB b P Q .mk) .mk:=by
 cases x<;>simp
theorem X2.b{x:Bool}{P Q:Prop}(h:x=true→P)(k:x=false→Q):X2 x P Q .mk:=⟨h,k⟩
theorem Xg{p q:Prop}(b:q)(a:p:=by first|omega|assumption):p∧q:=⟨a,b⟩
@[simp] theorem XB_b(x:Bool)(P Q:Prop):XB (.b x) P Q .mk=X2 x P Q .mk:=by
 cases x<;>simp[XB,X2]
@[simp high] theorem XB_t(P Q:Prop):XB (.b true) P Q .mk=P:=by simp[XB]
@[simp high] theorem XB_f(P Q:Prop):XB (.b false) P Q .mk=Q:=by simp[XB]
def XG(g:Option Bool)(P Q:Prop)(_:Tag (PProd.mk P Q)):Prop:=∃ x,g=some x∧(x=true→P)∧(x=false→Q)
@[simp] theorem XG_b(x:Bool)(P Q:Prop):XG (some x) P Q .mk=X2 x P Q .mk:=by
 cases x<;>simp[XG,X2]
@[simp high] theorem XG_t(P Q:Prop):XG (some true) P Q .mk=P:=by simp[XG]
@[simp high] theorem XG_f(P Q:Prop):XG (some false) P Q .mk=Q:=by simp[XG]
@[simp] theorem XG_c(x w:Bool)(a b:D)(P Q:Prop):XG (gB (bif x then a else b) w) P Q .mk=X2 x (XG (gB a w) P Q .mk) (XG (gB b w) P Q .mk) .mk:=by
 cases x<;>simp
def kp(s:St)(dst:Option Nat)(K:St→Prop):D×Dl→Prop:=fun p=>K { s with env:=put s.env dst p.1,H:=p.2.app s.H (Al.last s.H) }
def kt(s:St)(dst:Option Nat)(R:List Fp)(Q:Rc→St→Prop):D×Dl→Prop:=fun p=>Q ⟨R,fpW s.H.length p.2⟩ { s with env:=put s.env dst p.1,H:=p.2.app s.H (Al.last s.H) }
section
variable(T:Tab)
def XCall(f:FuncId)(args:List D)(dst:Option Nat)(s:St)(K:St→Prop)(_:Tag (dst,s,K)):Prop:=
 (∃ fn,T.fn f=some fn∧fn.full=false∧Wf T f (args.map (shed (fun _=>none) s.H 40)) [] fun d Hn=>oA (after s dst args d Hn) K .mk) ∨
 (∃ fn,T.fn f=some fn∧fn.full=true∧Wf T f args s.H fun d H'=>K { s with env:=put s.env dst d,H:=H' })
def XTCall(f:FuncId)(args:List D)(R:List Fp)(dst:Option Nat)(s:St)(Q:Rc→St→Prop)(_:Tag (dst,s,Q)):Prop:=
 ∃ fn d,T.fn f=some fn∧fn.full=false∧Wf T f (args.map (shed (fun _=>none) s.H 40)) [] (fun d' Hn=>d'=d∧Hn = [])∧(if closedL args then closed d else flat d)=true∧Q ⟨R,[]⟩ { s with env:=put s.env dst d }
def XTCallN(f:FuncId)(args:List D)(R:List Fp)(dst:Option Nat)(s:St)(Q:Rc→St→Prop)(t:Tag (dst,s,Q)):Prop:=
 XTCall T f args R dst s Q t∨∃ fn d ob,T.fn f=some fn∧fn.full=false∧Wf T f (args.map (shed (fun _=>none) s.H 40)) [] (fun d' Hn=>d'=d∧Hn = [ob]) ∧
  (if closedL args then okRes d&&closedOb ob else okFlat d&&flatOb ob)=true∧Q ⟨R,[(s.H.length,none)]⟩ { s with env:=put s.env dst (lift1 s.H.length d),H:=s.H ++ [ob] }
def XTCallZ(f:FuncId)(args:List D)(R:List Fp)(dst:Option Nat)(s:St)(Q:Rc→St→Prop)(t:Tag (dst,s,Q)):Prop:=
 XTCallN T f args R dst s Q t∨∃ fn d v,T.fn f=some fn∧fn.full=false∧(∀ u∈(args.map (refsD s.H 40)).flatten,u=v)∧v∈(args.map (refsD s.H 40)).flatten∧(rowsOf s.H v).isSome=true ∧
  closedL (args.map (shed (fun _=>none) s.H 40))=true∧Wf T f (args.map (shed (fun _=>none) s.H 40)) [] (fun d' Hn=>d'=d∧Hn = [])∧closed d=true∧Q ⟨R,[(v,none)]⟩ { s with env:=put s.env dst d,H:=s.H.set v .dead }
def rndB(v rf:Nat)(dst:Option Nat)(s:St)(K:St→Prop):OutP:=fun o=>∃ env2,o.st.H[v]? = some (.rcd rf env2 .busy)∧K { s with env:=put s.env dst (.b !o.stop),H:=o.st.H.set v (.rcd rf env2 o.rst) }
def XYield(v:Nat)(args:List D)(dst:Option Nat)(s:St)(K:St→Prop)(_:Tag (dst,s,K)):Prop:=
 ∃ rf env0 Rd,s.H[v]? = some (.rcd rf env0 .ready)∧T.round rf=some Rd∧args.length=Rd.params.length ∧
  Wc T Rd.a { env:=setParams Rd.params args env0,H:=s.H,rnd:=true } fun o=>∃ s1 env1,o = .norm s1∧s1.H[v]? = some (.rcd rf env1 .ready)∧Wc T Rd.b { s1 with H:=s1.H.set v (.rcd rf env1 .busy) } (rndB v rf dst s K)
def XCv(d:D)(args:List D)(dst:Option Nat)(s:St)(K:St→Prop)(t:Tag (dst,s,K)):Prop:=
 match d with
 | .yld v=>XYield T v args dst s K t
 | d=>oA (calleeD args d) (fun p=>XCall T p.1 p.2 dst s K t) .mk
def XNext(x:D)(dst:Option Nat)(s:St)(K:St→Prop)(_:Tag (dst,s,K)):Prop:=
 ∃ v m since seen kk es,x = .ptr v 0 0∧s.H[v]? = some (.miter (.omap m) since seen)∧s.H[m]? = some (.map kk es)∧es.length=since ∧
  ((∀ i,i<es.length→i∈seen)→K { s with env:=put s.env dst (.tup [.b false]) }) ∧
  (∀ i k d,es[i]? = some (k,d)→i ∉ seen→K { s with env:=put s.env dst (.tup [.b true,.val k,d]),H:=s.H.set v (.miter (.omap m) since (seen ++ [i])) })
def XOp(op:IOp)(dst:Option Nat)(s:St)(K:St→Prop):Prop:=
 match op with
 | .call f args=>XCall T f (args.map (ev s.env.get)) dst s K .mk
 | .callN f args=>XCall T f (args.map (ev s.env.get)) dst s K .mk
 | .callv f args=>XCv T (ev s.env.get f) (args.map (ev s.env.get)) dst s K .mk
 | .nilS a b=>oA (sopO s.env.get s.H s.H.length (.nilS a b)) (kp s dst K) .mk
 | .capE a=>oA (sopO s.env.get s.H s.H.length (.capE a)) (kp s dst K) .mk
 | .appZ a b c d e f=>oA (sopO s.env.get s.H s.H.length (.appZ a b c d e f)) (kp s dst K) .mk
 | .clr a b c=>oA (sopO s.env.get s.H s.H.length (.clr a b c)) (kp s dst K) .mk
 | .rangeS a=>oA (sopO s.env.get s.H s.H.length (.rangeS a)) (kp s dst K) .mk
 | .nextS a=>oA (sopO s.env.get s.H s.H.length (.nextS a)) (kp s dst K) .mk
 | .rangeM a=>oA (sopO s.env.get s.H s.H.length (.rangeM a)) (kp s dst K) .mk
 | .entry a=>oA (sopO s.env.get s.H s.H.length (.entry a)) (kp s dst K) .mk
 | .nextM a=>XNext (ev s.env.get a) dst s K .mk
 | op=>oA (aopO s.env.get s.H s.H.length op) (kp s dst K) .mk
def XTp(op:IOp)(dst:Option Nat)(s:St)(Q:Rc→St→Prop):Prop:=
 match op with
 | .call f args=>XTCall T f (args.map (ev s.env.get)) (fpR s.env.get s.H (.call f args)) dst s Q .mk
 | .callN f args=>XTCallZ T f (args.map (ev s.env.get)) (fpR s.env.get s.H (.callN f args)) dst s Q .mk
 | .callv f args=>oA (calleeOf s.env.get (.callv f args)) (fun p=>XTCall T p.1 p.2 (fpR s.env.get s.H (.callv f args)) dst s Q .mk) .mk
 | op=>oA (aopO s.env.get s.H s.H.length op) (kt s dst (fpR s.env.get s.H op) Q) .mk
def XO:List IEnt→St→(St→Prop)→Prop
 | [],s,K=>K s
 | e::r,s,K=>XG (guardOf s.env.get e.guard) (XOp T e.op e.dst s fun s'=>XO r s' K) (XO r { s with env:=put s.env e.dst (.val undef) } K) .mk
def XT:List IEnt→St→(List Rc→St→Prop)→Prop
 | [],s,K=>K [] s
 | e::r,s,K=>XG (guardOf s.env.get e.guard) (XTp T e.op e.dst s fun rc s'=>XT r s' fun rs s2=>K (rc::rs) s2) (XT r { s with env:=put s.env e.dst (.val undef) } fun rs s2=>K (⟨[],[]⟩::rs) s2) .mk
end
section
variable{T:Tab}
theorem oA_mono{α:Type}{x:Option α}{P Q:α→Prop}{t:Tag P}{u:Tag Q}(h:oA x P t)(hi:∀ a,P a→Q a):oA x Q u:=by
 obtain⟨a,h1,h2⟩:=h;exact⟨a,h1,hi a h2⟩
theorem XCall.mono{f:FuncId}{args:List D}{dst:Option Nat}{s:St}{K K':St→Prop}{t:Tag (dst,s,K)}{u:Tag (dst,s,K')}(h:XCall T f args dst s K t)(hi:∀ s,K s→K' s):XCall T f args dst s K' u:=by
 rcases h with⟨fn,hf,hp,h⟩|⟨fn,hf,hp,h⟩
 ·exact .inl ⟨fn,hf,hp,Wf.mono h fun d Hn h=>oA_mono h hi⟩
 ·exact .inr ⟨fn,hf,hp,Wf.mono h fun d H h=>hi _ h⟩
theorem XYield.mono{v:Nat}{args:List D}{dst:Option Nat}{s:St}{K K':St→Prop}{t:Tag (dst,s,K)}{u:Tag (dst,s,K')}(h:XYield T v args dst s K t)(hi:∀ s,K s→K' s):XYield T v args dst s K' u:=by
 obtain⟨rf,env0,Rd,hv,hR,hl,h⟩:=h
 exact⟨rf,env0,Rd,hv,hR,hl,h.mono fun o ⟨s1,env1,he,h1,h2⟩=>⟨s1,env1,he,h1,h2.mono fun o ⟨env2,h3,h4⟩=>⟨env2,h3,hi _ h4⟩⟩⟩
theorem XCv.mono{d:D}{args:List D}{dst:Option Nat}{s:St}{K K':St→Prop}{t:Tag (dst,s,K)}{u:Tag (dst,s,K')}(h:XCv T d args dst s K t)(hi:∀ s,K s→K' s):XCv T d args dst s K' u:=by
 unfold XCv at h ⊢
 split at h
 ·exact XYield.mono h hi
 ·exact oA_mono h fun p hp=>XCall.mono hp hi
theorem XNext.mono{x:D}{dst:Option Nat}{s:St}{K K':St→Prop}{t:Tag (dst,s,K)}{u:Tag (dst,s,K')}(h:XNext x dst s K t)(hi:∀ s,K s→K' s):XNext x dst s K' u:=by
 obtain⟨v,m,since,seen,kk,es,h1,h2,h3,h4,h5,h6⟩:=h
 exact⟨v,m,since,seen,kk,es,h1,h2,h3,h4,fun h=>hi _ (h5 h),fun i k d e1 e2=>hi _ (h6 i k d e1 e2)⟩
theorem XOp.mono{op:IOp}{dst:Option Nat}{s:St}{K K':St→Prop}(h:XOp T op dst s K)(hi:∀ s,K s→K' s):XOp T op dst s K':=by
 unfold XOp at h ⊢
 split at h<;>first
  | exact XCall.mono h hi
  | exact XCv.mono h hi
  | exact XNext.mono h hi
  | exact oA_mono h fun p hp=>hi _ hp
theorem XO.mono:∀ {l:List IEnt} {s:St} {K K':St→Prop},XO T l s K→(∀ s,K s→K' s)→XO T l s K'
 | [],s,K,K',h,hi=>hi s h
 | e::r,s,K,K',h,hi=>by
  obtain⟨x,hg,ht,hf⟩:=h
  exact⟨x,hg,fun e=>XOp.mono (ht e) fun s' h=>XO.mono h hi,fun e=>XO.mono (hf e) hi⟩
theorem XCall.wo{f:FuncId}{args:List D}{s:St}{K:St→Prop}{e:IEnt}{r:List IEnt}(hg:guardOf s.env.get e.guard=some true)(hc:calleeOf s.env.get e.op=some (f,args))(h:XCall T f args e.dst s (fun s'=>Wo T r s' K) .mk):Wo T (e::r) s K:=by
 rcases h with⟨fn,hf,hp,h⟩|⟨fn,hf,hp,h⟩
 ·refine Ev.callP hg hc hf hp h (fun d Hn hd=>?_) fun d Hn s' hd hs'=>?_
  ·obtain⟨d',H',he,s',hs,hk⟩:=hd
   cases he;rw[hs];rfl
  ·obtain⟨d',H',he,s2,hs,hk⟩:=hd
   cases he
   rw[hs]at hs';cases hs'
   exact hk
 ·exact Ev.callF hg hc hf hp h fun d H' hd=>by
   obtain⟨d',H2,he,hk⟩:=hd
   cases he;exact hk
theorem XO.wo2{l2:List IEnt}{K:St→Prop}:∀ {l:List IEnt} {s:St},XO T l s (fun s'=>Wo T l2 s' K)→Wo T (l++l2) s K
 | [],s,h=>h
 | e::r,s,h=>by
  obtain⟨x,hg,ht,hf⟩:=h
  cases x with
  | false=>exact Wo.off hg (XO.wo2 (hf rfl))
  | true=>
   have h:=ht rfl
   have plain:oA (aopO s.env.get s.H s.H.length e.op) (kp s e.dst fun s'=>XO T r s' fun s'=>Wo T l2 s' K) .mk→Wo T (e::r++l2) s K:=fun⟨⟨d,δ⟩,hd,hk⟩=>Wo.op hg hd (XO.wo2 hk)
   have sp:oA (sopO s.env.get s.H s.H.length e.op) (kp s e.dst fun s'=>XO T r s' fun s'=>Wo T l2 s' K) .mk→Wo T (e::r++l2) s K:=fun⟨⟨d,δ⟩,hd,hk⟩=>Wo.sop hg hd (XO.wo2 hk)
   have call:∀ f args,calleeOf s.env.get e.op=some (f,args)→XCall T f args e.dst s (fun s'=>XO T r s' fun s'=>Wo T l2 s' K) .mk→Wo T (e::r++l2) s K:=fun f args hc hx=>by
    refine XCall.wo hg hc ?_
    rcases hx with⟨fn,hf,hp,h⟩|⟨fn,hf,hp,h⟩
    ·exact .inl ⟨fn,hf,hp,Wf.mono h fun d Hn ⟨s',h1,h2⟩=>⟨s',h1,XO.wo2 h2⟩⟩
    ·exact .inr ⟨fn,hf,hp,Wf.mono h fun d Hn h1=>XO.wo2 h1⟩
   unfold XOp at h
   split at h
   case h_1 f args he=>exact call _ _ (by rw[he];rfl) h
   case h_2 f args he=>exact call _ _ (by rw[he];rfl) h
   case h_3 f args he=>
    unfold XCv at h
    split at h
    ·rename_i v hv
     obtain⟨rf,env0,Rd,hv2,hR,hl,h⟩:=h
     have hy:yieldOf s.env.get e.op=some (v,args.map (ev s.env.get)):=by rw[he];simp only[yieldOf,hv]
     refine Ev.callY hg hy hv2 hR hl h (fun o ⟨o',e1,s1,env1,e2,h1,h2⟩=>?_) (Rb:=PO (rndB v rf e.dst s fun s'=>XO T r s' fun s'=>Wo T l2 s' K)) (fun s1 env1 ⟨o',e1,s2,env2,e2,h1,h2⟩ h3=>?_) (fun o ⟨o',e1,env2,h1,h2⟩=>?_) fun o env2 ⟨o',e1,env3,h1,h2⟩ h3=>?_
     ·cases e1;subst e2;exact⟨rfl,env1,h1⟩
     ·cases e1;cases e2
      rw[h1]at h3;cases h3;exact h2
     ·cases e1;exact⟨env2,h1⟩
     ·cases e1
      rw[h1]at h3;cases h3
      exact XO.wo2 h2
    ·rename_i hn
     obtain⟨p,hp,h⟩:=h
     exact call p.1 p.2 (by rw[he,callee_callv];exact hp) h
   case h_12 a he=>
    obtain⟨v,m,since,seen,kk,es,h1,h2,h3,h4,h5,h6⟩:=h
    exact Ev.next hg he h1 h2 h3 h4 (fun k=>XO.wo2 (h5 k)) fun i k d e1 e2=>XO.wo2 (h6 i k d e1 e2)
   case h_13=>exact plain h
   all_goals (rename_i he;exact sp (by rw[he];exact h))
theorem XO.wo{l:List IEnt}{s:St}{K:St→Prop}(h:XO T l s K):Wo T l s K:=by
 have:=XO.wo2 (l2:=[]) (K:=K) (XO.mono h fun s' k=>Wo.nil k)
 rwa [List.append_nil]at this
theorem XT.wt:∀ {l:List IEnt} {s:St} {K:List Rc→St→Prop},XT T l s K→Wt T l s K
 | [],s,K,h=>Wt.nil h
 | e::r,s,K,h=>by
  obtain⟨x,hg,ht,hf⟩:=h
  cases x with
  | false=>exact Wt.off hg (XT.wt (hf rfl))
  | true=>
   have h:=ht rfl
   have call:∀ f args,calleeOf s.env.get e.op=some (f,args)→XTCall T f args (fpR s.env.get s.H e.op) e.dst s (fun rc s'=>XT T r s' fun rs s2=>K (rc::rs) s2) .mk→Wt T (e::r) s K:=fun f args hc ⟨fn,d,hf,hp,hw,hcl,hk⟩=>
    Ev.trCall hg hc hf hp hw (fun d' Hn ⟨d2,H2,he,hd⟩=>by cases he;exact hd) hcl (XT.wt hk) fun rs s' ⟨rs',s2,he,k⟩=>by cases he;exact⟨_,_,rfl,k⟩
   unfold XTp at h
   split at h
   case h_1 f args he=>exact call _ _ (by rw[he];rfl) (by rw[he];exact h)
   case h_2 f args he=>
    rcases h with(h|⟨fn,d,ob,hf,hp,hw,hcl,hk⟩)|⟨fn,d,v,hf,hp,hS,hv,hrow,hcl,hw,hr,hk⟩
    ·exact call _ _ (by rw[he];rfl) (by rw[he];exact h)
    ·exact Ev.trCallN hg he rfl hf hp hw (fun d' Hn ⟨d2,H2,he,hd⟩=>by cases he;exact hd) hcl (XT.wt hk) fun rs s' ⟨rs',s2,e2,k⟩=>by cases e2;rw[he];exact⟨_,_,rfl,k⟩
    ·exact Ev.trCallZ hg he rfl hf hp hS hv hrow hcl hw (fun d' Hn ⟨d2,H2,he,hd⟩=>by cases he;exact hd) hr (XT.wt hk) fun rs s' ⟨rs',s2,e2,k⟩=>by cases e2;rw[he];exact⟨_,_,rfl,k⟩
   case h_3 f args he=>obtain⟨p,hp,h⟩:=h;exact call p.1 p.2 (by rw[he];exact hp) (by rw[he];exact h)
   case h_4=>obtain⟨⟨d,δ⟩,hd,hk⟩:=h;exact Wt.op hg hd (XT.wt hk)
end
def unfz:IR→IR
 | .seq a b=>.seq (unfz a) (unfz b)
 | .cond c a b=>.cond c (unfz a) (unfz b)
 | .block id live a=>.block id live (unfz a)
 | .loop live a=>.loop live (unfz a)
 | .fz _ a=>unfz a
 | .fzO _ a b=>.ops (a++b)
 | c=>c
def noFz:IR→Bool
 | .seq a b=>noFz a&&noFz b
 | .cond _ a b=>noFz a&&noFz b
 | .block _ _ a=>noFz a
 | .loop _ a=>noFz a
 | .fz _ _=>false
 | .fzO _ _ _=>false
 | _=>true
theorem unfz_no:∀ {c:IR},noFz c=true→unfz c=c
 | .seq a b,h=>by simp only[noFz,Bool.and_eq_true]at h;rw[unfz,unfz_no h.1,unfz_no h.2]
 | .cond _ a b,h=>by simp only[noFz,Bool.and_eq_true]at h;rw[unfz,unfz_no h.1,unfz_no h.2]
 | .block _ _ a,h=>by rw[unfz,unfz_no (c:=a) h]
 | .loop _ a,h=>by rw[unfz,unfz_no (c:=a) h]
 | .fz _ _,h=>by cases h
 | .fzO _ _ _,h=>by cases h
 | .skip,_ | .ops _,_ | .draw _ _,_ | .drawL _ _ _,_ | .rangeF _ _ _,_ | .exit _,_ | .ret,_ | .bad,_=>rfl
def headIs(k:Nat):List IEnt→Bool
 | { dst:=some j,.. }::_=>decide (j=k)
 | _=>false
def insB(k:Nat)(S:List Nat):IR→IR
 | .ops l=>bif headIs k l then .fz S (.ops l)else .ops l
 | .draw p l=>bif headIs k l then .fz S (.draw p l)else .draw p l
 | .drawL p l e=>bif headIs k l then .fz S (.drawL p l e)else .drawL p l e
 | .seq a b=>.seq (insB k S a) (insB k S b)
 | .cond c a b=>.cond c (insB k S a) (insB k S b)
 | .block id live a=>.block id live (insB k S a)
 | .loop live a=>.loop live (insB k S a)
 | .fz S' a=>.fz S' (insB k S a)
 | c=>c
theorem unfz_ins(k:Nat)(S:List Nat):∀ c:IR,unfz (insB k S c)=unfz c
 | .ops l=>by unfold insB;cases headIs k l<;>rfl
 | .draw p l=>by unfold insB;cases headIs k l<;>rfl
 | .drawL p l e=>by unfold insB;cases headIs k l<;>rfl
 | .seq a b=>by simp only[insB,unfz,unfz_ins k S a,unfz_ins k S b]
 | .cond c a b=>by simp only[insB,unfz,unfz_ins k S a,unfz_ins k S b]
 | .block id live a=>by simp only[insB,unfz,unfz_ins k S a]
 | .loop live a=>by simp only[insB,unfz,unfz_ins k S a]
 | .fz S' a=>by simp only[insB,unfz,unfz_ins k S a]
 | .skip | .rangeF _ _ _ | .exit _ | .ret | .bad | .fzO _ _ _=>rfl
def befK(k:Nat):List IEnt→List IEnt
 | []=>[]
 | e::r=>bif headIs k [e]then []else e::befK k r
def froK(k:Nat):List IEnt→List IEnt
 | []=>[]
 | e::r=>bif headIs k [e]then e::r else froK k r
def hasK(k:Nat):List IEnt→Bool
 | []=>false
 | e::r=>headIs k [e]||hasK k r
theorem bef_fro(k:Nat):∀ l:List IEnt,befK k l++froK k l=l
 | []=>rfl
 | e::r=>by unfold befK froK;cases headIs k [e]<;>simp[bef_fro k r]
def insC(k:Nat)(S:List Nat):IR→IR
 | .ops l=>bif hasK k l then .fzO S (befK k l) (froK k l)else .ops l
 | .seq a b=>.seq (insC k S a) (insC k S b)
 | .cond c a b=>.cond c (insC k S a) (insC k S b)
 | .block id live a=>.block id live (insC k S a)
 | .loop live a=>.loop live (insC k S a)
 | .fz S' a=>.fz S' (insC k S a)
 | c=>c
theorem unfz_insC(k:Nat)(S:List Nat):∀ c:IR,unfz (insC k S c)=unfz c
 | .ops l=>by unfold insC;cases hasK k l<;>simp[unfz,bef_fro]
 | .seq a b=>by simp only[insC,unfz,unfz_insC k S a,unfz_insC k S b]
 | .cond c a b=>by simp only[insC,unfz,unfz_insC k S a,unfz_insC k S b]
 | .block id live a=>by simp only[insC,unfz,unfz_insC k S a]
 | .loop live a=>by simp only[insC,unfz,unfz_insC k S a]
 | .fz S' a=>by simp only[insC,unfz,unfz_insC k S a]
 | .skip | .rangeF _ _ _ | .exit _ | .ret | .bad | .fzO _ _ _ | .draw _ _ | .drawL _ _ _=>rfl
def XLoop(T:Tab)(live:List Nat)(a:IR)(s:St)(K:OutP)(_:Tag (live,a,s,K)):Prop:=Wc T (.loop live (unfz a)) s K
def XRange(T:Tab)(rf:Nat)(live:List Nat)(x:X)(s:St)(K:OutP)(_:Tag (live,x,s,K)):Prop:=Wc T (.rangeF rf live x) s K
@[irreducible] def mOK(m S:List Nat):Bool:=m.all fun v => !S.contains v
theorem mOK_def(m S:List Nat):mOK m S=m.all fun v => !S.contains v:=by unfold mOK;rfl
@[simp] theorem mOK_nil(S:List Nat):mOK [] S=true:=by rw[mOK_def];rfl
@[simp] theorem mOK_cons(v:Nat)(m S:List Nat):mOK (v::m) S=(!decide (v∈S)&&mOK m S):=by rw[mOK_def,mOK_def,List.all_cons,List.contains_eq_mem]
def aggRef:D→List Nat
 | .agg cs=>(cs.map (topRef 0)).flatten
 | _=>[]
@[simp] theorem aggRef_agg(cs:List D):aggRef (.agg cs)=(cs.map (topRef 0)).flatten:=rfl
def fzSet(env:Env):List Nat→List Nat
 | []=>[]
 | v::r=>if v<1000 then v::fzSet env r else if v<2000 then topRef 0 (env.get (v-1000))++fzSet env r else aggRef (env.get (v-2000))++fzSet env r
@[simp] theorem fzSet_nil(env:Env):fzSet env [] = []:=rfl
@[simp] theorem fzSet_cons(env:Env)(v:Nat)(r:List Nat):fzSet env (v::r)=if v<1000 then v::fzSet env r else if v<2000 then topRef 0 (env.get (v-1000))++fzSet env r else aggRef (env.get (v-2000))++fzSet env r:=rfl
def XC(T:Tab):IR→St→OutP→Prop
 | .skip,s,K=>K (.norm s)
 | .ops l,s,K=>XO T l s fun s'=>K (.norm s')
 | .draw prs l,s,K=>XT T l s fun rs s'=>prsOK prs rs=true∧K (.norm s')
 | .drawL prs l es,s,K=>XT T l s fun rs s'=>prsOK prs rs=true∧XO T es s' fun s'=>K (.norm s')
 | .seq a b,s,K=>XC T a s fun o=>match o with
  | .norm s'=>XC T b s' K
  | o=>K o
 | .cond c a b,s,K=>XB (ev s.env.get c) (XC T a s K) (XC T b s K) .mk
 | .block id live a,s,K=>XC T a s fun o=>K (blk id s.H.length live o)
 | .loop live a,s,K=>XLoop T live a s K .mk
 | .rangeF rf live x,s,K=>XRange T rf live x s K .mk
 | .exit id,s,K=>K (.exit id s)
 | .ret,s,K=>K (.ret s)
 | .bad,_,_=>False
 | .fz S a,s,K=>mOK s.marks (fzSet s.env S)=true∧XC T a (frz (fzSet s.env S) s) K
 | .fzO S a b,s,K=>XO T a s fun s'=>mOK s'.marks (fzSet s'.env S)=true∧XO T b (frz (fzSet s'.env S) s') fun s'=>K (.norm s')
def nxtW(T:Tab)(b:IR)(K:OutP):OutP:=fun o=>match o with
 | .norm s'=>XC T b s' K
 | o=>K o
def blkK(id n:Nat)(live:List Nat)(K:OutP):OutP:=fun o=>K (blk id n live o)
section
variable{T:Tab}
theorem Wc.frz{c:IR}{s:St}{K:OutP}(S:List Nat)(hm:mOK s.marks S=true)(h:Wc T c (frz S s) K):Wc T c s K:=Ev.frzC S (by rwa [mOK_def]at hm) h
theorem XC.wc:∀ {c:IR} {s:St} {K:OutP},XC T c s K→Wc T (unfz c) s K
 | .skip,s,K,h=>Wc.skip h
 | .ops l,s,K,h=>Wc.ops (XO.wo h)
 | .draw prs l,s,K,h=>Wc.draw (XT.wt h)
 | .drawL prs l es,s,K,h=>Wc.drawL (Ev.mono (XT.wt h) fun _ ⟨rs,s',q,k⟩=>⟨rs,s',q,k.1,XO.wo k.2⟩)
 | .seq a b,s,K,h=>Wc.seq ((XC.wc (c:=a) h).mono fun o ho=>by
  cases o with
  | norm s'=>exact XC.wc (c:=b) ho
  | exit=>exact ho
  | ret=>exact ho)
 | .cond _ _ _,_,_,h=>by
  obtain⟨x,hx,ht,hf⟩:=h
  exact Wc.cond x hx (fun e=>XC.wc (ht e)) fun e=>XC.wc (hf e)
 | .block _ _ _,_,_,h=>Wc.block (XC.wc h)
 | .loop live a,s,K,h=>h
 | .rangeF rf live x,s,K,h=>h
 | .exit id,s,K,h=>Wc.exit h
 | .ret,s,K,h=>Wc.ret h
 | .bad,s,K,h=>h.elim
 | .fz S a,s,K,h=>Wc.frz (fzSet s.env S) h.1 (XC.wc (c:=a) h.2)
 | .fzO S a b,s,K,h=>Wc.ops (XO.wo2 (XO.mono h fun s' k=>Ev.frz (fzSet s'.env S) (by have:=k.1;rwa [mOK_def]at this) (XO.wo k.2)))
def res1(ds:List D):D:=match ds with
 | [d]=>d
 | ds=>.tup ds
@[simp] theorem res1_1(d:D):res1 [d]=d:=rfl
@[simp] theorem res1_2(d e:D):res1 [d,e] = .tup [d,e]:=rfl
@[simp] theorem res1_3(d e f:D):res1 [d,e,f] = .tup [d,e,f]:=rfl
@[simp] theorem res1_0:res1 [] = .tup []:=rfl
def finK(rs:List ResX)(own n:Nat)(K:D→Heap→Prop):OutP:=fun o=>match o with
 | .norm s | .ret s=>oA (kill s.marks s.H) (fun H=>oA (resAll { s with H:=H } rs) (fun ds=>K (leave own n H (res1 ds)).1 (leave own n H (res1 ds)).2) .mk) .mk
 | .exit _ _=>False
theorem Wf.xz(own:Nat){f:FuncId}{args:List D}{H:Heap}{fn:FnA}{K:D→Heap→Prop}(c:IR)(hf:T.fn f=some fn)(hl:args.length≤fn.ntmps)(hc:unfz c=fn.body)
  (h:XC T c { env:=mkEnv args,H:=H } (finK fn.results own H.length K)):Wf T f args H K:=by
 have key:∀ s:St,(oA (kill s.marks s.H) (fun H'=>oA (resAll { s with H:=H' } fn.results) (fun ds=>K (leave own H.length H' (res1 ds)).1 (leave own H.length H' (res1 ds)).2) .mk) .mk)→∃ d H',(match kill s.marks s.H with
  | some H1=>match results fn { s with H:=H1 }with
   | some d=>some (leave own H.length H1 d)
   | none=>none
  | none=>none)=some (d,H')∧K d H':=by
  rintro s ⟨H1,h1,ds,h2,hk⟩
  rw[h1]
  refine⟨_,_,?_,hk⟩
  unfold AL.results
  dsimp only
  rw[h2]
  cases ds with
  | nil=>rfl
  | cons a l=>cases l<;>rfl
 refine Wf.call own hf hl (hc▸(XC.wc h).mono fun o ho=>?_)
 cases o with
 | norm s=>exact key s ho
 | ret s=>exact key s ho
 | exit=>exact ho.elim
theorem Wf.xo(own:Nat){f:FuncId}{args:List D}{H:Heap}{fn:FnA}{K:D→Heap→Prop}(hf:T.fn f=some fn)(hl:args.length≤fn.ntmps)
  (h:XC T fn.body { env:=mkEnv args,H:=H } (finK fn.results own H.length K)) (hz:noFz fn.body=true:=by rfl):Wf T f args H K:=Wf.xz own fn.body hf hl (unfz_no hz) h
theorem Wf.x{f:FuncId}{args:List D}{H:Heap}{fn:FnA}{K:D→Heap→Prop}(hf:T.fn f=some fn)(hl:args.length≤fn.ntmps)
  (h:XC T fn.body { env:=mkEnv args,H:=H } (finK fn.results fn.own H.length K)) (hz:noFz fn.body=true:=by rfl):Wf T f args H K:=Wf.xo fn.own hf hl h hz
theorem XCall.is{f:FuncId}{args:List D}{dst:Option Nat}{s:St}{K:St→Prop}{fn:FnA}{K0:D→Heap→Prop}(hf:T.fn f=some fn)(hp:fn.full=false)(h:Wf T f (args.map (shed (fun _=>none) s.H 40)) [] K0)
  (k:∀ d Hn,K0 d Hn→oA (after s dst args d Hn) K .mk):XCall T f args dst s K .mk:=.inl ⟨fn,hf,hp,Wf.mono h k⟩
theorem XCall.isF{f:FuncId}{args:List D}{dst:Option Nat}{s:St}{K:St→Prop}{fn:FnA}{K0:D→Heap→Prop}(hf:T.fn f=some fn)(hp:fn.full=true)(h:Wf T f args s.H K0)
  (k:∀ d H',K0 d H'→K { s with env:=put s.env dst d,H:=H' }):XCall T f args dst s K .mk:=.inr ⟨fn,hf,hp,Wf.mono h k⟩
theorem XCall.c{f:FuncId}{args:List D}{dst:Option Nat}{s:St}{K:St→Prop}{fn:FnA}{x:D}(hf:T.fn f=some fn)(hp:fn.full=false)(h:Wf T f args [] fun d H'=>d=x∧H' = [])
  (hc:closedL args=true) (hx:closed x=true) (k:K { s with env:=put s.env dst x }):XCall T f args dst s K .mk:=by
 refine XCall.is hf hp (K0:=fun d H'=>d=x∧H' = []) ?_ ?_
 ·have e0:args.map (shed (fun _=>none) s.H 40)=args:=by
   conv=>rhs;rw[← List.map_id args]
   exact List.map_congr_left fun d hd=>shed_closed (closedL_of hc d hd)
  rw[e0];exact h
 ·rintro d Hn ⟨rfl,rfl⟩
  obtain⟨k1,k2⟩:=closed_res (H:=s.H) hx
  refine⟨{ s with env:=put s.env dst d },?_,k⟩
  unfold after
  rw[if_pos hc,k1,k2]
  simp
theorem XCall.r{f:FuncId}{args args':List D}{dst:Option Nat}{s:St}{K:St→Prop}{fn:FnA}{x:D}(hf:T.fn f=some fn)(hp:fn.full=false)(h:Wf T f args' [] fun d H'=>d=x∧H' = [])
  (hs:args.map (shed (fun _=>none) s.H 40)=args') (hx:flat x=true) (hx2:closed x=true) (k:K { s with env:=put s.env dst x }):XCall T f args dst s K .mk:=by
 refine XCall.is hf hp (K0:=fun d H'=>d=x∧H' = []) (by rw[hs];exact h) ?_
 rintro d Hn ⟨rfl,rfl⟩
 obtain⟨k1,k2⟩:=closed_res (H:=s.H) hx2
 refine⟨{ s with env:=put s.env dst d },?_,k⟩
 have:okFlat d=true:=(flat_res (H:=s.H) hx).1
 unfold after
 rw[this,k1,k2]
 simp
theorem XTCall.c{f:FuncId}{args:List D}{R:List Fp}{dst:Option Nat}{s:St}{Q:Rc→St→Prop}{fn:FnA}{x:D}(hf:T.fn f=some fn)(hp:fn.full=false)(h:Wf T f args [] fun d H'=>d=x∧H' = [])
  (hc:closedL args=true) (hx:closed x=true) (k:Q ⟨R,[]⟩ { s with env:=put s.env dst x }):XTCall T f args R dst s Q .mk:=by
 refine⟨fn,x,hf,hp,?_,by rw[if_pos hc];exact hx,k⟩
 have e0:args.map (shed (fun _=>none) s.H 40)=args:=by
  conv=>rhs;rw[← List.map_id args]
  exact List.map_congr_left fun d hd=>shed_closed (closedL_of hc d hd)
 rw[e0];exact h
theorem XTCall.r{f:FuncId}{args args':List D}{R:List Fp}{dst:Option Nat}{s:St}{Q:Rc→St→Prop}{fn:FnA}{x:D}(hf:T.fn f=some fn)(hp:fn.full=false)(h:Wf T f args' [] fun d H'=>d=x∧H' = [])
  (hs:args.map (shed (fun _=>none) s.H 40)=args') (hx:flat x=true) (hx2:closed x=true) (k:Q ⟨R,[]⟩ { s with env:=put s.env dst x }):XTCall T f args R dst s Q .mk:=
 ⟨fn,x,hf,hp,by rw[hs];exact h,by split<;>assumption,k⟩
variable{s:St}{K:OutP}{a b:IR}{l:List IEnt}{op:IOp}{k j:Nat}
@[simp ↓] theorem XC_skip:XC T .skip s K=K (.norm s):=(rfl)
@[simp ↓] theorem XC_ops:XC T (.ops l) s K=XO T l s fun s'=>K (.norm s'):=(rfl)
@[simp ↓] theorem XC_draw{prs:List (Nat×Nat)}:XC T (.draw prs l) s K=XT T l s fun rs s'=>prsOK prs rs=true∧K (.norm s'):=(rfl)
@[simp ↓] theorem XC_drawL{prs:List (Nat×Nat)}{es:List IEnt}:XC T (.drawL prs l es) s K=XT T l s fun rs s'=>prsOK prs rs=true∧XO T es s' fun s'=>K (.norm s'):=(rfl)
@[simp ↓] theorem XC_seq:XC T (.seq a b) s K=XC T a s (nxtW T b K):=(rfl)
@[simp ↓] theorem XC_cond{c:X}:XC T (.cond c a b) s K=XB (ev s.env.get c) (XC T a s K) (XC T b s K) .mk:=(rfl)
@[simp ↓] theorem XC_block{id:Nat}{live:List Nat}:XC T (.block id live a) s K=XC T a s (blkK id s.H.length live K):=(rfl)
@[simp ↓] theorem XC_loop{live:List Nat}:XC T (.loop live a) s K=XLoop T live a s K .mk:=(rfl)
@[simp ↓] theorem XC_rangeF{rf:Nat}{live:List Nat}{x:X}:XC T (.rangeF rf live x) s K=XRange T rf live x s K .mk:=(rfl)
@[simp ↓] theorem XC_fz{S:List Nat}:XC T (.fz S a) s K=(mOK s.marks (fzSet s.env S)=true∧XC T a (frz (fzSet s.env S) s) K):=(rfl)
@[simp ↓] theorem XC_fzO{S:List Nat}{x y:List IEnt}:XC T (.fzO S x y) s K=XO T x s fun s'=>mOK s'.marks (fzSet s'.env S)=true∧XO T y (frz (fzSet s'.env S) s') fun s'=>K (.norm s'):=(rfl)
@[simp ↓] theorem XC_exit{id:Nat}:XC T (.exit id) s K=K (.exit id s):=(rfl)
@[simp ↓] theorem XC_ret:XC T .ret s K=K (.ret s):=(rfl)
@[simp ↓] theorem nxtW_norm:nxtW T b K (.norm s)=XC T b s K:=(rfl)
@[simp ↓] theorem nxtW_exit{id:Nat}:nxtW T b K (.exit id s)=K (.exit id s):=(rfl)
@[simp ↓] theorem nxtW_ret:nxtW T b K (.ret s)=K (.ret s):=(rfl)
@[simp ↓] theorem blkK_norm{id n:Nat}{live:List Nat}:blkK id n live K (.norm s)=K (.norm (cut n live s)):=(rfl)
@[simp ↓] theorem blkK_ret{id n:Nat}{live:List Nat}:blkK id n live K (.ret s)=K (.ret s):=(rfl)
@[simp ↓] theorem blkK_same{id n:Nat}{live:List Nat}:blkK id n live K (.exit id s)=K (.norm (cut n live s)):=by simp[blkK,blk]
@[simp ↓] theorem blkK_other{id id' n:Nat}{live:List Nat}(h:id'≠id):blkK id n live K (.exit id' s)=K (.exit id' s):=by simp[blkK,blk,h]
@[simp ↓] theorem finK_ret{rs:List ResX}{own n:Nat}{K:D→Heap→Prop}:finK rs own n K (.ret s)=oA (kill s.marks s.H) (fun H=>oA (resAll { s with H:=H } rs) (fun ds=>K (leave own n H (res1 ds)).1 (leave own n H (res1 ds)).2) .mk) .mk:=(rfl)
@[simp ↓] theorem finK_norm{rs:List ResX}{own n:Nat}{K:D→Heap→Prop}:finK rs own n K (.norm s)=oA (kill s.marks s.H) (fun H=>oA (resAll { s with H:=H } rs) (fun ds=>K (leave own n H (res1 ds)).1 (leave own n H (res1 ds)).2) .mk) .mk:=(rfl)
@[simp ↓] theorem XO_nil{K:St→Prop}:XO T [] s K=K s:=(rfl)
@[simp ↓] theorem XO_o{K:St→Prop}:XO T (o k op::l) s K=XOp T op (some k) s fun s'=>XO T l s' K:=by
 simp[XO,guardOf]
@[simp ↓] theorem XO_u{K:St→Prop}:XO T (u op::l) s K=XOp T op none s fun s'=>XO T l s' K:=by
 simp[XO,guardOf]
@[simp ↓] theorem XO_og{g:Bool}{K:St→Prop}:XO T (og j g k op::l) s K=XG (guardOf s.env.get (some (j,g))) (XOp T op (some k) s fun s'=>XO T l s' K) (XO T l { s with env:=(k,.val undef)::s.env } K) .mk:=(rfl)
@[simp ↓] theorem XT_nil{Q:List Rc→St→Prop}:XT T [] s Q=Q [] s:=(rfl)
@[simp ↓] theorem XT_o{Q:List Rc→St→Prop}:XT T (o k op::l) s Q=XTp T op (some k) s fun rc s'=>XT T l s' fun rs s2=>Q (rc::rs) s2:=by
 simp[XT,guardOf]
@[simp ↓] theorem XT_u{Q:List Rc→St→Prop}:XT T (u op::l) s Q=XTp T op none s fun rc s'=>XT T l s' fun rs s2=>Q (rc::rs) s2:=by
 simp[XT,guardOf]
@[simp ↓] theorem XT_og{g:Bool}{Q:List Rc→St→Prop}:XT T (og j g k op::l) s Q=XG (guardOf s.env.get (some (j,g))) (XTp T op (some k) s fun rc s'=>XT T l s' fun rs s2=>Q (rc::rs) s2) (XT T l { s with env:=(k,.val undef)::s.env } fun rs s2=>Q (⟨[],[]⟩::rs) s2) .mk:=(rfl)
@[simp ↓] theorem kp_some{dst:Option Nat}{K:St→Prop}{d:D}{δ:Dl}:kp s dst K (d,δ)=K { s with env:=put s.env dst d,H:=δ.app s.H (Al.last s.H) }:=(rfl)
@[simp ↓] theorem kt_some{dst:Option Nat}{R:List Fp}{Q:Rc→St→Prop}{d:D}{δ:Dl}:kt s dst R Q (d,δ)=Q ⟨R,fpW s.H.length δ⟩ { s with env:=put s.env dst d,H:=δ.app s.H (Al.last s.H) }:=(rfl)
section
variable{dst:Option Nat}{K:St→Prop}{Q:Rc→St→Prop}
@[simp ↓] theorem XOp_mv{x:X}:XOp T (.mv x) dst s K=oA (aopO s.env.get s.H s.H.length (.mv x)) (kp s dst K) .mk:=(rfl)
@[simp ↓] theorem XTp_mv{x:X}:XTp T (.mv x) dst s Q=oA (aopO s.env.get s.H s.H.length (.mv x)) (kt s dst (fpR s.env.get s.H (.mv x)) Q) .mk:=(rfl)
@[simp ↓] theorem XOp_pick{c a b:X}:XOp T (.pick c a b) dst s K=oA (aopO s.env.get s.H s.H.length (.pick c a b)) (kp s dst K) .mk:=(rfl)
@[simp ↓] theorem XTp_pick{c a b:X}:XTp T (.pick c a b) dst s Q=oA (aopO s.env.get s.H s.H.length (.pick c a b)) (kt s dst (fpR s.env.get s.H (.pick c a b)) Q) .mk:=(rfl)
@[simp ↓] theorem XOp_box{t:TypeId}{x:X}:XOp T (.box t x) dst s K=oA (aopO s.env.get s.H s.H.length (.box t x)) (kp s dst K) .mk:=(rfl)
@[simp ↓] theorem XTp_box{t:TypeId}{x:X}:XTp T (.box t x) dst s Q=oA (aopO s.env.get s.H s.H.length (.box t x)) (kt s dst (fpR s.env.get s.H (.box t x)) Q) .mk:=(rfl)
@[simp ↓] theorem XOp_alloc{t:TypeId}{z:List D}:XOp T (.alloc t z) dst s K=oA (aopO s.env.get s.H s.H.length (.alloc t z)) (kp s dst K) .mk:=(rfl)
@[simp ↓] theorem XTp_alloc{t:TypeId}{z:List D}:XTp T (.alloc t z) dst s Q=oA (aopO s.env.get s.H s.H.length (.alloc t z)) (kt s dst (fpR s.env.get s.H (.alloc t z)) Q) .mk:=(rfl)
@[simp ↓] theorem XOp_build{z:List D}{ps:List (Nat×Nat×X)}:XOp T (.build z ps) dst s K=oA (aopO s.env.get s.H s.H.length (.build z ps)) (kp s dst K) .mk:=(rfl)
@[simp ↓] theorem XTp_build{z:List D}{ps:List (Nat×Nat×X)}:XTp T (.build z ps) dst s Q=oA (aopO s.env.get s.H s.H.length (.build z ps)) (kt s dst (fpR s.env.get s.H (.build z ps)) Q) .mk:=(rfl)
@[simp ↓] theorem XOp_buildSl{t sz:Nat}{z:List D}{n:Nat}{ps:List (Nat×X)}:XOp T (.buildSl t sz z n ps) dst s K=oA (aopO s.env.get s.H s.H.length (.buildSl t sz z n ps)) (kp s dst K) .mk:=(rfl)
@[simp ↓] theorem XTp_buildSl{t sz:Nat}{z:List D}{n:Nat}{ps:List (Nat×X)}:XTp T (.buildSl t sz z n ps) dst s Q=oA (aopO s.env.get s.H s.H.length (.buildSl t sz z n ps)) (kt s dst (fpR s.env.get s.H (.buildSl t sz z n ps)) Q) .mk:=(rfl)
@[simp ↓] theorem XOp_ld1{x:X}:XOp T (.ld1 x) dst s K=oA (aopO s.env.get s.H s.H.length (.ld1 x)) (kp s dst K) .mk:=(rfl)
@[simp ↓] theorem XTp_ld1{x:X}:XTp T (.ld1 x) dst s Q=oA (aopO s.env.get s.H s.H.length (.ld1 x)) (kt s dst (fpR s.env.get s.H (.ld1 x)) Q) .mk:=(rfl)
@[simp ↓] theorem XOp_ldN{n:Nat}{x:X}:XOp T (.ldN n x) dst s K=oA (aopO s.env.get s.H s.H.length (.ldN n x)) (kp s dst K) .mk:=(rfl)
@[simp ↓] theorem XTp_ldN{n:Nat}{x:X}:XTp T (.ldN n x) dst s Q=oA (aopO s.env.get s.H s.H.length (.ldN n x)) (kt s dst (fpR s.env.get s.H (.ldN n x)) Q) .mk:=(rfl)
@[simp ↓] theorem XOp_st1{a x:X}:XOp T (.st1 a x) dst s K=oA (aopO s.env.get s.H s.H.length (.st1 a x)) (kp s dst K) .mk:=(rfl)
@[simp ↓] theorem XTp_st1{a x:X}:XTp T (.st1 a x) dst s Q=oA (aopO s.env.get s.H s.H.length (.st1 a x)) (kt s dst (fpR s.env.get s.H (.st1 a x)) Q) .mk:=(rfl)
@[simp ↓] theorem XOp_stN{n:Nat}{a x:X}:XOp T (.stN n a x) dst s K=oA (aopO s.env.get s.H s.H.length (.stN n a x)) (kp s dst K) .mk:=(rfl)
@[simp ↓] theorem XTp_stN{n:Nat}{a x:X}:XTp T (.stN n a x) dst s Q=oA (aopO s.env.get s.H s.H.length (.stN n a x)) (kt s dst (fpR s.env.get s.H (.stN n a x)) Q) .mk:=(rfl)
@[simp ↓] theorem XOp_nilck{x:X}:XOp T (.nilck x) dst s K=oA (aopO s.env.get s.H s.H.length (.nilck x)) (kp s dst K) .mk:=(rfl)
@[simp ↓] theorem XTp_nilck{x:X}:XTp T (.nilck x) dst s Q=oA (aopO s.env.get s.H s.H.length (.nilck x)) (kt s dst (fpR s.env.get s.H (.nilck x)) Q) .mk:=(rfl)
@[simp ↓] theorem XOp_arith{op:BinOp}{x y:X}:XOp T (.arith op x y) dst s K=oA (aopO s.env.get s.H s.H.length (.arith op x y)) (kp s dst K) .mk:=(rfl)
@[simp ↓] theorem XTp_arith{op:BinOp}{x y:X}:XTp T (.arith op x y) dst s Q=oA (aopO s.env.get s.H s.H.length (.arith op x y)) (kt s dst (fpR s.env.get s.H (.arith op x y)) Q) .mk:=(rfl)
@[simp ↓] theorem XOp_eqS{isagg:Bool}{ls:List Leaf}{neg:Bool}{x y:X}:XOp T (.eqS isagg ls neg x y) dst s K=oA (aopO s.env.get s.H s.H.length (.eqS isagg ls neg x y)) (kp s dst K) .mk:=(rfl)
@[simp ↓] theorem XTp_eqS{isagg:Bool}{ls:List Leaf}{neg:Bool}{x y:X}:XTp T (.eqS isagg ls neg x y) dst s Q=oA (aopO s.env.get s.H s.H.length (.eqS isagg ls neg x y)) (kt s dst (fpR s.env.get s.H (.eqS isagg ls neg x y)) Q) .mk:=(rfl)
@[simp ↓] theorem XOp_un{op:UnOp}{x:X}:XOp T (.un op x) dst s K=oA (aopO s.env.get s.H s.H.length (.un op x)) (kp s dst K) .mk:=(rfl)
@[simp ↓] theorem XTp_un{op:UnOp}{x:X}:XTp T (.un op x) dst s Q=oA (aopO s.env.get s.H s.H.length (.un op x)) (kt s dst (fpR s.env.get s.H (.un op x)) Q) .mk:=(rfl)
@[simp ↓] theorem XOp_conv{k:IntKind}{x:X}:XOp T (.conv k x) dst s K=oA (aopO s.env.get s.H s.H.length (.conv k x)) (kp s dst K) .mk:=(rfl)
@[simp ↓] theorem XTp_conv{k:IntKind}{x:X}:XTp T (.conv k x) dst s Q=oA (aopO s.env.get s.H s.H.length (.conv k x)) (kt s dst (fpR s.env.get s.H (.conv k x)) Q) .mk:=(rfl)
@[simp ↓] theorem XOp_b2s{x:X}:XOp T (.b2s x) dst s K=oA (aopO s.env.get s.H s.H.length (.b2s x)) (kp s dst K) .mk:=(rfl)
@[simp ↓] theorem XOp_mkfn{fn:Fn}{first captured:List X}:XOp T (.mkfn fn first captured) dst s K=oA (aopO s.env.get s.H s.H.length (.mkfn fn first captured)) (kp s dst K) .mk:=(rfl)
@[simp ↓] theorem XOp_mkmap{kk:KK}:XOp T (.mkmap kk) dst s K=oA (aopO s.env.get s.H s.H.length (.mkmap kk)) (kp s dst K) .mk:=(rfl)
@[simp ↓] theorem XOp_mksl{t sz bytes:Nat}{z:List D}{l c:X}:XOp T (.mksl t sz bytes z l c) dst s K=oA (aopO s.env.get s.H s.H.length (.mksl t sz bytes z l c)) (kp s dst K) .mk:=(rfl)
@[simp ↓] theorem XTp_mksl{t sz bytes:Nat}{z:List D}{l c:X}:XTp T (.mksl t sz bytes z l c) dst s Q=oA (aopO s.env.get s.H s.H.length (.mksl t sz bytes z l c)) (kt s dst (fpR s.env.get s.H (.mksl t sz bytes z l c)) Q) .mk:=(rfl)
@[simp ↓] theorem XOp_slc{sz:Nat}{x:X}{lo hi:Option X}:XOp T (.slc sz x lo hi) dst s K=oA (aopO s.env.get s.H s.H.length (.slc sz x lo hi)) (kp s dst K) .mk:=(rfl)
@[simp ↓] theorem XTp_slc{sz:Nat}{x:X}{lo hi:Option X}:XTp T (.slc sz x lo hi) dst s Q=oA (aopO s.env.get s.H s.H.length (.slc sz x lo hi)) (kt s dst (fpR s.env.get s.H (.slc sz x lo hi)) Q) .mk:=(rfl)
@[simp ↓] theorem XOp_fieldA{off:Nat}{x:X}:XOp T (.fieldA off x) dst s K=oA (aopO s.env.get s.H s.H.length (.fieldA off x)) (kp s dst K) .mk:=(rfl)
@[simp ↓] theorem XTp_fieldA{off:Nat}{x:X}:XTp T (.fieldA off x) dst s Q=oA (aopO s.env.get s.H s.H.length (.fieldA off x)) (kt s dst (fpR s.env.get s.H (.fieldA off x)) Q) .mk:=(rfl)
@[simp ↓] theorem XOp_field{off n:Nat}{isagg:Bool}{x:X}:XOp T (.field off n isagg x) dst s K=oA (aopO s.env.get s.H s.H.length (.field off n isagg x)) (kp s dst K) .mk:=(rfl)
@[simp ↓] theorem XTp_field{off n:Nat}{isagg:Bool}{x:X}:XTp T (.field off n isagg x) dst s Q=oA (aopO s.env.get s.H s.H.length (.field off n isagg x)) (kt s dst (fpR s.env.get s.H (.field off n isagg x)) Q) .mk:=(rfl)
@[simp ↓] theorem XOp_idxA{sz:Nat}{x i:X}:XOp T (.idxA sz x i) dst s K=oA (aopO s.env.get s.H s.H.length (.idxA sz x i)) (kp s dst K) .mk:=(rfl)
@[simp ↓] theorem XTp_idxA{sz:Nat}{x i:X}:XTp T (.idxA sz x i) dst s Q=oA (aopO s.env.get s.H s.H.length (.idxA sz x i)) (kt s dst (fpR s.env.get s.H (.idxA sz x i)) Q) .mk:=(rfl)
@[simp ↓] theorem XOp_idxArr{sz n:Nat}{x i:X}:XOp T (.idxArr sz n x i) dst s K=oA (aopO s.env.get s.H s.H.length (.idxArr sz n x i)) (kp s dst K) .mk:=(rfl)
@[simp ↓] theorem XTp_idxArr{sz n:Nat}{x i:X}:XTp T (.idxArr sz n x i) dst s Q=oA (aopO s.env.get s.H s.H.length (.idxArr sz n x i)) (kt s dst (fpR s.env.get s.H (.idxArr sz n x i)) Q) .mk:=(rfl)
@[simp ↓] theorem XOp_lookup{kk:KK}{z:D}{ok:Bool}{m k:X}:XOp T (.lookup kk z ok m k) dst s K=oA (aopO s.env.get s.H s.H.length (.lookup kk z ok m k)) (kp s dst K) .mk:=(rfl)
@[simp ↓] theorem XTp_lookup{kk:KK}{z:D}{ok:Bool}{m k:X}:XTp T (.lookup kk z ok m k) dst s Q=oA (aopO s.env.get s.H s.H.length (.lookup kk z ok m k)) (kt s dst (fpR s.env.get s.H (.lookup kk z ok m k)) Q) .mk:=(rfl)
@[simp ↓] theorem XOp_mapUpd{kk:KK}{m k v:X}:XOp T (.mapUpd kk m k v) dst s K=oA (aopO s.env.get s.H s.H.length (.mapUpd kk m k v)) (kp s dst K) .mk:=(rfl)
@[simp ↓] theorem XOp_ext{x:X}{i:Nat}:XOp T (.ext x i) dst s K=oA (aopO s.env.get s.H s.H.length (.ext x i)) (kp s dst K) .mk:=(rfl)
@[simp ↓] theorem XTp_ext{x:X}{i:Nat}:XTp T (.ext x i) dst s Q=oA (aopO s.env.get s.H s.H.length (.ext x i)) (kt s dst (fpR s.env.get s.H (.ext x i)) Q) .mk:=(rfl)
@[simp ↓] theorem XOp_call{f:FuncId}{args:List X}:XOp T (.call f args) dst s K=XCall T f (args.map (ev s.env.get)) dst s K .mk:=(rfl)
@[simp ↓] theorem XTp_call{f:FuncId}{args:List X}:XTp T (.call f args) dst s Q=XTCall T f (args.map (ev s.env.get)) (fpR s.env.get s.H (.call f args)) dst s Q .mk:=(rfl)
@[simp ↓] theorem XOp_callN{f:FuncId}{args:List X}:XOp T (.callN f args) dst s K=XCall T f (args.map (ev s.env.get)) dst s K .mk:=(rfl)
@[simp ↓] theorem XTp_callN{f:FuncId}{args:List X}:XTp T (.callN f args) dst s Q=XTCallZ T f (args.map (ev s.env.get)) (fpR s.env.get s.H (.callN f args)) dst s Q .mk:=(rfl)
@[simp ↓] theorem XOp_callv{f:X}{args:List X}:XOp T (.callv f args) dst s K=XCv T (ev s.env.get f) (args.map (ev s.env.get)) dst s K .mk:=(rfl)
@[simp] theorem XCv_fn{k:FuncId}{first cap args:List D}:XCv T (.fn (.func k) first cap) args dst s K .mk=XCall T k (first++args++cap) dst s K .mk:=by
 show oA (some (k,first++args++cap)) (fun p=>XCall T p.1 p.2 dst s K .mk) .mk=_
 simp only[oA_some]
@[simp] theorem XCv_yld{v:Nat}{args:List D}:XCv T (.yld v) args dst s K .mk=XYield T v args dst s K .mk:=(rfl)
@[simp ↓] theorem XTp_callv{f:X}{args:List X}:XTp T (.callv f args) dst s Q=oA (calleeOf s.env.get (.callv f args)) (fun p=>XTCall T p.1 p.2 (fpR s.env.get s.H (.callv f args)) dst s Q .mk) .mk:=(rfl)
@[simp ↓] theorem XOp_app{t sz bytes:Nat}{x y:X}:XOp T (.app t sz bytes x y) dst s K=oA (aopO s.env.get s.H s.H.length (.app t sz bytes x y)) (kp s dst K) .mk:=(rfl)
@[simp ↓] theorem XTp_app{t sz bytes:Nat}{x y:X}:XTp T (.app t sz bytes x y) dst s Q=oA (aopO s.env.get s.H s.H.length (.app t sz bytes x y)) (kt s dst (fpR s.env.get s.H (.app t sz bytes x y)) Q) .mk:=(rfl)
@[simp ↓] theorem XOp_len{k:LenOf}{x:X}:XOp T (.len k x) dst s K=oA (aopO s.env.get s.H s.H.length (.len k x)) (kp s dst K) .mk:=(rfl)
@[simp ↓] theorem XTp_len{k:LenOf}{x:X}:XTp T (.len k x) dst s Q=oA (aopO s.env.get s.H s.H.length (.len k x)) (kt s dst (fpR s.env.get s.H (.len k x)) Q) .mk:=(rfl)
@[simp ↓] theorem XOp_minmax{isMax:Bool}{xs:List X}:XOp T (.minmax isMax xs) dst s K=oA (aopO s.env.get s.H s.H.length (.minmax isMax xs)) (kp s dst K) .mk:=(rfl)
@[simp ↓] theorem XTp_minmax{isMax:Bool}{xs:List X}:XTp T (.minmax isMax xs) dst s Q=oA (aopO s.env.get s.H s.H.length (.minmax isMax xs)) (kt s dst (fpR s.env.get s.H (.minmax isMax xs)) Q) .mk:=(rfl)
@[simp ↓] theorem XOp_nilS{neg:Bool}{x:X}:XOp T (.nilS neg x) dst s K=oA (sopO s.env.get s.H s.H.length (.nilS neg x)) (kp s dst K) .mk:=(rfl)
@[simp ↓] theorem XOp_capE{x:X}:XOp T (.capE x) dst s K=oA (sopO s.env.get s.H s.H.length (.capE x)) (kp s dst K) .mk:=(rfl)
@[simp ↓] theorem XOp_appZ{t sz bytes:Nat}{z:List D}{x n:X}:XOp T (.appZ t sz bytes z x n) dst s K=oA (sopO s.env.get s.H s.H.length (.appZ t sz bytes z x n)) (kp s dst K) .mk:=(rfl)
@[simp ↓] theorem XOp_clr{sz:Nat}{z:List D}{x:X}:XOp T (.clr sz z x) dst s K=oA (sopO s.env.get s.H s.H.length (.clr sz z x)) (kp s dst K) .mk:=(rfl)
@[simp ↓] theorem XOp_rangeM{x:X}:XOp T (.rangeM x) dst s K=oA (sopO s.env.get s.H s.H.length (.rangeM x)) (kp s dst K) .mk:=(rfl)
@[simp ↓] theorem XOp_nextM{x:X}:XOp T (.nextM x) dst s K=XNext (ev s.env.get x) dst s K .mk:=(rfl)
@[simp ↓] theorem XOp_entry{x:X}:XOp T (.entry x) dst s K=oA (sopO s.env.get s.H s.H.length (.entry x)) (kp s dst K) .mk:=(rfl)
end
end
def loopK(n:Nat)(live keys:List Nat)(J:Env→Heap→List Nat→Bool→Prop)(K:OutP):OutP:=fun o=>match o with
 | .norm s=>J (forget keys (cut n live s).env) (cut n live s).H (cut n live s).marks (cut n live s).rnd
 | o=>K o
@[simp ↓] theorem loopK_norm{n:Nat}{live keys:List Nat}{J:Env→Heap→List Nat→Bool→Prop}{K:OutP}{s:St}:loopK n live keys J K (.norm s)=J (forget keys (cut n live s).env) (cut n live s).H (cut n live s).marks (cut n live s).rnd:=(rfl)
@[simp ↓] theorem loopK_exit{n:Nat}{live keys:List Nat}{J:Env→Heap→List Nat→Bool→Prop}{K:OutP}{id:Nat}{s:St}:loopK n live keys J K (.exit id s)=K (.exit id s):=(rfl)
@[simp ↓] theorem loopK_ret{n:Nat}{live keys:List Nat}{J:Env→Heap→List Nat→Bool→Prop}{K:OutP}{s:St}:loopK n live keys J K (.ret s)=K (.ret s):=(rfl)
theorem XLoop.i{T:Tab}{live:List Nat}{a:IR}{s:St}{K:OutP}{α:Type}(keys:List Nat)(hks:(keys.all fun k=>live.contains k)=true)(E:α→Env)(Hp:α→Heap)(P:α→Prop)(μ:α→Nat)(x0:α)
  (h0:P x0) (hE:forget keys s.env=E x0) (hH:s.H=Hp x0)
  (h:∀ x,P x→XC T a { env:=E x,H:=Hp x,marks:=s.marks,rnd:=s.rnd } (loopK s.H.length live keys (fun e H m r=>∃ x',e=E x'∧H=Hp x'∧m=s.marks∧r=s.rnd∧μ x'<μ x∧P x') K)):XLoop T live a s K .mk:=by
 refine Wc.loop (fun m s'=>∃ x,P x∧m=μ x∧({ s' with env:=forget keys s'.env }:St) = { env:=E x,H:=Hp x,marks:=s.marks,rnd:=s.rnd }) (μ x0) ⟨x0,h0,rfl,?_⟩ ?_
 ·dsimp only
  rw[forget_sub hks,hE]
  rw[← hH]
 ·rintro m s' ⟨x,hP,rfl,he⟩
  refine Ev.forg keys ?_
  rw[he]
  refine(XC.wc (h x hP)).mono fun o ho=>?_
  cases o with
  | norm s''=>
   obtain⟨x',h3,h4,h5,h6,h2,h1⟩:=ho
   refine⟨μ x',h2,x',h1,rfl,?_⟩
   rw[h3]
   generalize cut s.H.length live s''=q at *
   cases q
   simp_all
  | exit=>exact ho
  | ret=>exact ho
theorem XLoop.j{T:Tab}{live:List Nat}{a:IR}{s:St}{K:OutP}{α:Type}(x0:α)(E:α→Env)(Hp:α→Heap)(P:α→Prop)(μ:α→Nat)
  (h0:P x0) (hE:forget ((E x0).map (·.1)) s.env=E x0) (hH:s.H=Hp x0) (hks:(((E x0).map (·.1)).all fun k=>live.contains k)=true)
  (h:∀ x,P x→XC T a { env:=E x,H:=Hp x,marks:=s.marks,rnd:=s.rnd } (loopK s.H.length live ((E x0).map (·.1)) (fun e H m r=>∃ x',e=E x'∧H=Hp x'∧m=s.marks∧r=s.rnd∧μ x'<μ x∧P x') K)):XLoop T live a s K .mk:=
 XLoop.i ((E x0).map (·.1)) hks E Hp P μ x0 h0 hE hH h
@[simp] theorem cutN{n:Nat}{live:List Nat}{env:Env}{H:Heap}{m:List Nat}{r:Bool}(h:H.length≤n):cut n live { env:=env,H:=H,marks:=m,rnd:=r } = { env:=forget live env,H:=H,marks:=m,rnd:=r }:=cut_none h
def Is(x:D):D→Heap→Prop:=fun d Hn=>d=x∧Hn = []
@[simp] theorem Is_def(x d:D)(H:Heap):Is x d H=(d=x∧H = []):=rfl
@[simp] theorem pickO_b(x:Bool)(a b:D):pickO (.b x) a b=some (cond x a b):=by cases x<;>rfl
@[simp] theorem oA_pick_c(c:Bool)(a b d e:D)(P:D→Prop):oA (pickO (bif c then a else b) d e) P .mk=X2 c (oA (pickO a d e) P .mk) (oA (pickO b d e) P .mk) .mk:=by cases c<;>simp
@[simp] theorem leave0{n:Nat}{H:Heap}{d:D}(h:H.length≤n)(own:Nat):leave own n H d=(d,H):=by
 unfold leave;rw[if_pos h]
section
variable{P:D→Prop}{a b:Int}
@[simp] theorem oA_add:oA (arithO .add .i64 a b) P .mk=(inI64 (a+b)∧P (.i (a+b))):=by simp only[arithO,if_true];rw[oA_iteN,oA_some]
@[simp] theorem oA_sub:oA (arithO .sub .i64 a b) P .mk=(inI64 (a-b)∧P (.i (a-b))):=by simp only[arithO,if_true];rw[oA_iteN,oA_some]
@[simp] theorem oA_mul:oA (arithO .mul .i64 a b) P .mk=(inI64 (a*b)∧P (.i (a*b))):=by simp only[arithO,if_true];rw[oA_iteN,oA_some]
end
def quoI(a b:Int):Int:=IntKind.i64.wrap (a.tdiv b)
def remI(a b:Int):Int:=a.tmod b
theorem wrapI64{n:Int}(h:inI64 n):IntKind.i64.wrap n=n:=by
 unfold inI64 at h
 simp only[IntKind.wrap,IntKind.bits,IntKind.signed]
 simp
 omega
theorem quoI_eq{a b:Int}(h0:0≤a)(h1:a≤9223372036854775807)(hb:0<b):quoI a b=a / b:=by
 unfold quoI
 rw[Int.tdiv_eq_ediv_of_nonneg h0,wrapI64]
 have h2:0≤a / b:=Int.ediv_nonneg h0 (by omega)
 have h3:a / b≤a:=Int.ediv_le_self b h0
 exact⟨by omega,by omega⟩
theorem remI_eq{a b:Int}(h0:0≤a):remI a b=a % b:=Int.tmod_eq_emod_of_nonneg h0
section
variable{P:D→Prop}{a b:Int}{t:Tag P}
@[simp] theorem oA_quo:oA (arithO .quo .i64 a b) P t=(b≠0∧P (.i (quoI a b))):=by
 cases t
 simp only[arithO]
 by_cases h:b=0<;>simp[h,quoI]
@[simp] theorem oA_rem:oA (arithO .rem .i64 a b) P t=(b≠0∧P (.i (remI a b))):=by
 cases t
 simp only[arithO]
 by_cases h:b=0<;>simp[h,remI]
end
@[simp] theorem inI64_def(n:Int):inI64 n=(-9223372036854775808≤n∧n≤9223372036854775807):=rfl
def gt{α:Type}[Inhabited α](l:List α)(n:Int):α:=l.getD n.toNat default
theorem gt_mem{α:Type}[Inhabited α]{l:List α}{n:Int}(h0:0≤n)(h:n<l.length):gt l n∈l:=by
 unfold gt
 rw[List.getD_eq_getElem?_getD,List.getElem?_eq_getElem (by omega),Option.getD_some]
 exact List.getElem_mem _
theorem gt_eq{α:Type}[Inhabited α]{l:List α}{n:Int}(h0:0≤n)(h:n<l.length):gt l n=l[n.toNat]:=by
 unfold gt
 rw[List.getD_eq_getElem?_getD,List.getElem?_eq_getElem (by omega),Option.getD_some]
theorem gt_nat{α:Type}[Inhabited α]{l:List α}{n:Nat}(h:n<l.length):gt l n=l[n]:=gt_eq (by omega) (by omega)
theorem take_gt{α:Type}[Inhabited α]{l:List α}{n:Int}(h0:0≤n)(h:n<l.length):l.take (n+1).toNat=l.take n.toNat ++ [gt l n]:=by
 rw[gt_eq h0 h,← List.take_succ_eq_append_getElem (by omega)]
 congr 1;omega
theorem drop_gt{α:Type}[Inhabited α]{l:List α}{n:Int}(h0:0≤n)(h:n<l.length):l.drop n.toNat=gt l n::l.drop (n.toNat+1):=by
 rw[gt_eq h0 h];exact List.drop_eq_getElem_cons (by omega)
theorem mem_gt{α:Type}[Inhabited α]{l:List α}{x:α}:x∈l↔∃ n:Int,0≤n∧n<l.length∧gt l n=x:=by
 constructor
 ·intro h
  obtain⟨i,hi,e⟩:=List.getElem_of_mem h
  exact⟨i,by omega,by omega,by rw[gt_nat hi,e]⟩
 ·rintro⟨n,h0,h1,rfl⟩
  exact gt_mem h0 h1
theorem take_all{α:Type}{l:List α}{n:Int}(h:(l.length:Int)≤n):l.take n.toNat=l:=List.take_of_length_le (by omega)
section
variable{α:Type}[Inhabited α]{sz:Nat}{f:α→List D}{P:D→Prop}{k:IntKind}
theorem oA_idx{l:List α}{n:Int}:oA (idxAO sz (.sl sz (l.map f)) (.val (.int k n))) P .mk=((0≤n∧n<l.length)∧P (.fptr (f (gt l n)))):=by
 simp only[idxAO,List.length_map,true_and,oA_iteN,oA_some]
 refine propext ⟨fun⟨h,hp⟩=>⟨h,?_⟩,fun⟨h,hp⟩=>⟨h,?_⟩⟩
 ·rw[List.getD_eq_getElem?_getD,List.getElem?_map,List.getElem?_eq_getElem (by omega),Option.map_some,Option.getD_some]at hp
  unfold gt
  rw[List.getD_eq_getElem?_getD,List.getElem?_eq_getElem (by omega),Option.getD_some]
  exact hp
 ·rw[List.getD_eq_getElem?_getD,List.getElem?_map,List.getElem?_eq_getElem (by omega),Option.map_some,Option.getD_some]
  unfold gt at hp
  rw[List.getD_eq_getElem?_getD,List.getElem?_eq_getElem (by omega),Option.getD_some]at hp
  exact hp
@[simp] theorem oA_idxL{l:List α}{n:Int}:oA (idxAO sz (.sl sz (l.map f)) (.val (.int k n))) P .mk=((0≤n∧n<l.length)∧P (.fptr (f (gt l n)))):=oA_idx
@[simp] theorem oA_idxI{l:List Int}{n:Int}:oA (idxAO 1 (dI l) (.val (.int k n))) P .mk=((0≤n∧n<l.length)∧P (.fptr [.i (gt l n)])):=by unfold dI;rw[oA_idx,f1_def]
@[simp] theorem oA_idxPs{l:List Pos}{n:Int}:oA (idxAO 5 (dPs l) (.val (.int k n))) P .mk=((0≤n∧n<l.length)∧P (.fptr (gt l n).cells)):=oA_idx
@[simp] theorem oA_idxProg{l:List Stp}{n:Int}:oA (idxAO 2 (dProg l) (.val (.int k n))) P .mk=((0≤n∧n<l.length)∧P (.fptr [.i (gt l n).1,.i (gt l n).2])):=by unfold dProg;rw[oA_idx,fS_def]
@[simp] theorem oA_idxN{l:List α}{n:Int}:oA (idxAO sz (dN sz f l) (.val (.int k n))) P .mk=((0≤n∧n<l.length)∧P (.fptr (f (gt l n)))):=by
 cases l with
 | nil=>
  simp only[dN,idxAO,oA_none,List.length_nil]
  refine propext ⟨fun h=>h.elim,fun⟨h,_⟩=>?_⟩
  have:=h.1;have:=h.2;simp at this;omega
 | cons a l=>exact oA_idx
end
def shOsl(H:Heap)(k:Nat)(ρ:Nat→Option Nat)(v g sz off n:Nat):Option Nat→D
 | some v'=>.osl v' g sz off n
 | none=>match rowAt H v g with
  | some (_,cs)=>if (off+n)*sz≤cs.length then .sl sz (chunks sz n ((cs.drop (off*sz)).map (shed ρ H k)))else .any
  | none=>.any
@[simp] theorem shed_osl(ρ:Nat→Option Nat)(H:Heap)(k v g sz off n:Nat):shed ρ H (k+1) (.osl v g sz off n)=shOsl H k ρ v g sz off n (ρ v):=by
 rw[shed,if_neg (by simp[closed])]
 unfold shOsl;rfl
@[simp] theorem shOsl_some(H:Heap)(k:Nat)(ρ:Nat→Option Nat)(v g sz off n v':Nat):shOsl H k ρ v g sz off n (some v') = .osl v' g sz off n:=rfl
def shPtr(H:Heap)(k:Nat)(ρ:Nat→Option Nat)(v g off:Nat):Option Nat→D
 | some v'=>.ptr v' g off
 | none=>match rowAt H v g with
  | some (_,cs)=>.fptr ((cs.drop off).map (shed ρ H k))
  | none=>.any
@[simp] theorem shed_ptr(ρ:Nat→Option Nat)(H:Heap)(k v g off:Nat):shed ρ H (k+1) (.ptr v g off)=shPtr H k ρ v g off (ρ v):=by
 rw[shed,if_neg (by simp[closed])]
 unfold shPtr;rfl
@[simp] theorem shPtr_some(H:Heap)(k:Nat)(ρ:Nat→Option Nat)(v g off v':Nat):shPtr H k ρ v g off (some v') = .ptr v' g off:=rfl
def shMap:Option Nat→D
 | some v'=>.omap v'
 | none=>.any
@[simp] theorem shed_omap(ρ:Nat→Option Nat)(H:Heap)(k v:Nat):shed ρ H (k+1) (.omap v)=shMap (ρ v):=by
 rw[shed,if_neg (by simp[closed])]
 unfold shMap;rfl
@[simp] theorem shMap_some(v:Nat):shMap (some v) = .omap v:=rfl
@[simp] theorem shed_cl{ρ:Nat→Option Nat}{H:Heap}{k:Nat}{d:D}(h:closed d=true):shed ρ H k d=d:=shed_closed h
@[simp] theorem closed_agg(cs:List D):closed (.agg cs)=closedL cs:=by simp only[closed]
@[simp] theorem closed_tup(cs:List D):closed (.tup cs)=closedL cs:=by simp only[closed]
@[simp] theorem closed_fptr(cs:List D):closed (.fptr cs)=closedL cs:=by simp only[closed]
@[simp] theorem closed_val(v:Value):closed (.val v)=true:=by simp only[closed]
@[simp] theorem closed_emp:closed .emp=true:=by simp only[closed]
@[simp] theorem closed_fn(f:Fn)(a b:List D):closed (.fn f a b)=(closedL a&&closedL b):=by simp only[closed]
@[simp] theorem closed_osl(v g sz off n:Nat):closed (.osl v g sz off n)=false:=by simp only[closed]
@[simp] theorem closed_ptr(v g o:Nat):closed (.ptr v g o)=false:=by simp only[closed]
@[simp] theorem closed_omap(v:Nat):closed (.omap v)=false:=by simp only[closed]
@[simp] theorem closed_yld(v:Nat):closed (.yld v)=false:=by simp only[closed]
theorem map_shed_closed{ρ:Nat→Option Nat}{H:Heap}{k:Nat}{cs:List D}(h:closedL cs=true):cs.map (shed ρ H k)=cs:=by
 conv=>rhs;rw[← List.map_id cs]
 exact List.map_congr_left fun d hd=>shed_closed (closedL_of h d hd)
@[simp] theorem shed_agg(ρ:Nat→Option Nat)(H:Heap)(k:Nat)(cs:List D):shed ρ H (k+1) (.agg cs) = .agg (cs.map (shed ρ H k)):=by
 by_cases h:closed (.agg cs)=true
 ·rw[shed_closed h,map_shed_closed (by simpa using h)]
 ·rw[shed,if_neg h]
@[simp] theorem shed_tup(ρ:Nat→Option Nat)(H:Heap)(k:Nat)(cs:List D):shed ρ H (k+1) (.tup cs) = .tup (cs.map (shed ρ H k)):=by
 by_cases h:closed (.tup cs)=true
 ·rw[shed_closed h,map_shed_closed (by simpa using h)]
 ·rw[shed,if_neg h]
@[simp] theorem shed_cond(ρ:Nat→Option Nat)(H:Heap)(k:Nat)(c:Bool)(a b:D):shed ρ H k (bif c then a else b)=bif c then shed ρ H k a else shed ρ H k b:=by cases c<;>rfl
theorem shed_cells{ρ:Nat→Option Nat}{H:Heap}{k:Nat}{cs:List D}(h:closedL cs=true):cs.map (shed ρ H (k+1))=cs:=by
 conv=>rhs;rw[← List.map_id cs]
 exact List.map_congr_left fun d hd=>shed_closed (closedL_of h d hd)
theorem chunks_map{α:Type}{sz:Nat}{f:α→List D}(hf:∀ a,(f a).length=sz):∀ l:List α,chunks sz l.length (l.map f).flatten=l.map f
 | []=>rfl
 | a::l=>by
  simp only[List.length_cons,chunks,List.map_cons,List.flatten_cons]
  rw[List.take_append_of_le_length (by rw[hf];exact Nat.le_refl _),List.take_of_length_le (by rw[hf];exact Nat.le_refl _),List.drop_append_of_le_length (by rw[hf];exact Nat.le_refl _),List.drop_of_length_le (by rw[hf];exact Nat.le_refl _),List.nil_append,chunks_map hf l]
theorem length_flat{α:Type}{sz:Nat}{f:α→List D}(hf:∀ a,(f a).length=sz)(l:List α):(l.map f).flatten.length=l.length*sz:=by
 induction l with
 | nil=>simp
 | cons a l ih=>simp only[List.map_cons,List.flatten_cons,List.length_append,hf,ih,List.length_cons,Nat.succ_mul];omega
theorem closedL_app{a b:List D}:closedL (a++b)=(closedL a&&closedL b):=by
 induction a with
 | nil=>rfl
 | cons d a ih=>simp only[List.cons_append,closedL,ih,Bool.and_assoc]
theorem closedL_flat{α:Type}{f:α→List D}(hf:∀ a,closedL (f a)=true)(l:List α):closedL (l.map f).flatten=true:=by
 induction l with
 | nil=>rfl
 | cons a l ih=>simp only[List.map_cons,List.flatten_cons,closedL_app,hf,ih];rfl
class Fl {α:Type} (f:α→List D) (sz:outParam Nat):Prop where
 len:∀ a,(f a).length=sz
 cl:∀ a,closedL (f a)=true
instance:Fl f1 1:=⟨fun _=>by simp,fun _=>by simp[closedL]⟩
instance:Fl fB 1:=⟨fun _=>by simp,fun _=>by simp[closedL]⟩
instance:Fl fS 2:=⟨fun _=>by simp,fun _=>by simp[closedL]⟩
instance:Fl fP 1:=⟨fun _=>by simp,fun _=>by simp[closedL]⟩
instance:Fl fI 1:=⟨fun _=>by simp,fun _=>by simp[closedL]⟩
instance:Fl Pos.cells 5:=⟨fun _=>rfl,fun _=>by simp⟩
instance:Fl Kind.cells 3:=⟨fun _=>rfl,fun _=>by simp⟩
instance:Fl Clause.cells 4:=⟨fun _=>rfl,fun _=>by simp⟩
section
variable{α:Type}{f:α→List D}{sz:Nat}
@[simp] theorem cl_nil:cl f [] = []:=by rw[cl_def];rfl
@[simp] theorem cl_app(a b:List α):cl f a++cl f b=cl f (a++b):=by simp[cl_def]
theorem cl_snoc(l:List α)(a:α):cl f l++f a=cl f (l ++ [a]):=by simp[cl_def]
theorem cl_cons(l:List α)(a:α):cl f (a::l)=f a++cl f l:=by simp[cl_def]
variable [F:Fl f sz]
include F
@[simp] theorem cl_len(l:List α):(cl f l).length=l.length*sz:=by rw[cl_def];exact length_flat F.len l
theorem cl_take:∀ (l:List α) (n:Nat),(cl f l).take (n*sz)=cl f (l.take n)
 | [],n=>by simp
 | a::l,0=>by simp
 | a::l,n+1=>by
  rw[cl_cons,List.take_succ_cons,cl_cons,← cl_take l n,Nat.succ_mul,List.take_append,F.len,List.take_of_length_le (by rw[F.len];omega)]
  congr 2;omega
theorem cl_drop:∀ (l:List α) (n:Nat),(cl f l).drop (n*sz)=cl f (l.drop n)
 | [],n=>by simp
 | a::l,0=>by simp
 | a::l,n+1=>by
  rw[cl_cons,List.drop_succ_cons,← cl_drop l n,Nat.succ_mul,List.drop_append,F.len,List.drop_of_length_le (by rw[F.len];omega),List.nil_append]
  congr 1;omega
@[simp] theorem cl_takeA(l:List α):(cl f l).take (l.length*sz)=cl f l:=by rw[cl_take,List.take_length]
@[simp] theorem cl_closed(l:List α):closedL (cl f l)=true:=by rw[cl_def];exact closedL_flat F.cl l
@[simp] theorem cl_shed{ρ:Nat→Option Nat}{H:Heap}(l:List α):(cl f l).map (shed ρ H 40)=cl f l:=shed_cells (cl_closed l)
@[simp] theorem closed_slm{k:Nat}(l:List α):closed (.sl k (l.map f))=true:=by
 simp only[closed];exact closedLL_map F.cl l
theorem cl_at(l:List α)(n j:Nat)(hj:j<sz):(cl f l)[n*sz+j]? = (l[n]?).bind fun a=>(f a)[j]? := by
 have h:(cl f l)[n*sz+j]? = ((cl f l).drop (n*sz))[j]? := by rw[List.getElem?_drop]
 rw[h,cl_drop]
 by_cases hn:n<l.length
 ·rw[List.drop_eq_getElem_cons hn,cl_cons,List.getElem?_append_left (by rw[F.len];exact hj),List.getElem?_eq_getElem hn];rfl
 ·have h2:l[n]? = none:=List.getElem?_eq_none (Nat.le_of_not_lt hn)
  rw[List.drop_of_length_le (Nat.le_of_not_lt hn),h2];simp
theorem cl_put(l:List α)(n:Nat)(a:α)(h:n<l.length):(cl f l).take (n*sz)++f a++(cl f l).drop (n*sz+sz)=cl f (l.take n++a::l.drop (n+1)):=by
 rw[cl_take,← Nat.succ_mul,cl_drop,← cl_app,cl_cons,List.append_assoc]
end
@[simp] theorem cl1_take(l:List Int)(n:Nat):(cl f1 l).take n=cl f1 (l.take n):=by simpa using cl_take (f:=f1) l n
@[simp] theorem cl1_drop(l:List Int)(n:Nat):(cl f1 l).drop n=cl f1 (l.drop n):=by simpa using cl_drop (f:=f1) l n
@[simp] theorem cl1_snoc(l:List Int)(n:Int):cl f1 l ++ [.i n]=cl f1 (l ++ [n]):=by rw[← cl_snoc,f1_def]
@[simp] theorem clI_snoc(l:List (List Int))(x:List Int):cl fI l ++ [dI x]=cl fI (l ++ [x]):=by rw[← cl_snoc,fI_def]
@[simp] theorem clP_snoc(l:List (List Stp))(x:List Stp):cl fP l ++ [dProg x]=cl fP (l ++ [x]):=by rw[← cl_snoc,fP_def]
@[simp] theorem clS_snoc(l:List Stp)(a b:Int):cl fS l ++ [.i a,.i b]=cl fS (l ++ [(a,b)]):=by rw[← cl_snoc,fS_def]
@[simp] theorem clPos_snoc(l:List Pos)(a b c:List Int)(r q:Int):cl Pos.cells l ++ [dI a,dI b,dI c,.i r,.i q]=cl Pos.cells (l ++ [⟨a,b,c,r,q⟩]):=by rw[← cl_snoc];rfl
@[simp] theorem pos_eta(p:Pos):Pos.mk p.cs p.h0 p.h1 p.rights p.side=p:=rfl
@[simp] theorem oA_at1{l:List Int}{n:Int}{P:D→Prop}:oA (cl f1 l)[n.toNat]? P .mk=(n.toNat<l.length∧P (.i (gt l n))):=by
 have h:=cl_at (f:=f1) l n.toNat 0 (by omega)
 simp only[Nat.mul_one,Nat.add_zero]at h
 rw[h]
 by_cases hn:n.toNat<l.length
 ·rw[List.getElem?_eq_getElem hn]
  have e:gt l n=l[n.toNat]:=by unfold gt;rw[List.getD_eq_getElem?_getD,List.getElem?_eq_getElem hn];rfl
  simp[hn,e]
 ·rw[List.getElem?_eq_none (by omega)];simp[hn]
@[simp] theorem oA_ldR{α:Type}[Inhabited α]{f:α→List D}{sz:Nat}[F:Fl f sz]{l:List α}{t:TypeId}{n:Int}{P:D→Prop}(hz:0<sz):oA (ldR sz (n.toNat*sz) (some (t,cl f l))) P .mk=(n.toNat<l.length∧P (.agg (f (gt l n)))):=by
 simp only[ldR,cl_len,← Nat.succ_mul]
 rw[oA_iteN,oA_some]
 have h:n.toNat.succ*sz≤l.length*sz↔n.toNat<l.length:=Nat.mul_le_mul_right_iff hz
 rw[h]
 refine propext ⟨fun⟨a,p⟩=>⟨a,?_⟩,fun⟨a,p⟩=>⟨a,?_⟩⟩
 ·have e:gt l n=l[n.toNat]:=by unfold gt;rw[List.getD_eq_getElem?_getD,List.getElem?_eq_getElem a];rfl
  rw[cl_drop,List.drop_eq_getElem_cons a,cl_cons,List.take_append_of_le_length (by rw[F.len];exact Nat.le_refl _),List.take_of_length_le (by rw[F.len];exact Nat.le_refl _),← e]at p
  exact p
 ·have e:gt l n=l[n.toNat]:=by unfold gt;rw[List.getD_eq_getElem?_getD,List.getElem?_eq_getElem a];rfl
  rw[cl_drop,List.drop_eq_getElem_cons a,cl_cons,List.take_append_of_le_length (by rw[F.len];exact Nat.le_refl _),List.take_of_length_le (by rw[F.len];exact Nat.le_refl _),← e]
  exact p
def fzR(ρ:Nat→Option Nat)(H:Heap)(k sz off n:Nat):Option (TypeId×List D)→D
 | some (_,cs)=>if (off+n)*sz≤cs.length then .sl sz (chunks sz n ((cs.drop (off*sz)).map (shed ρ H k)))else .any
 | none=>.any
@[simp] theorem shOsl_none(H:Heap)(k:Nat)(ρ:Nat→Option Nat)(v g sz off n:Nat):shOsl H k ρ v g sz off n none=fzR ρ H k sz off n (rowAt H v g):=by
 unfold shOsl fzR;rfl
@[simp] theorem fzR_cl{α:Type}{f:α→List D}{sz:Nat}[F:Fl f sz]{ρ:Nat→Option Nat}{H:Heap}{k n:Nat}{t:TypeId}{l:List α}(h:n=l.length):fzR ρ H (k+1) sz 0 n (some (t,cl f l)) = .sl sz (l.map f):=by
 subst h
 unfold fzR
 dsimp only
 rw[cl_len,if_pos (by simp),Nat.zero_mul,List.drop_zero,shed_cells (cl_closed l),cl_def,chunks_map F.len]
@[simp] theorem fzR_0{ρ:Nat→Option Nat}{H:Heap}{k sz:Nat}{p:TypeId×List D}:fzR ρ H k sz 0 0 (some p) = .sl sz []:=by
 unfold fzR;simp[chunks]
@[simp] theorem sl1_nil:D.sl 1 []=dI []:=by unfold dI;rfl
@[simp] theorem fzR_i{ρ:Nat→Option Nat}{H:Heap}{k:Nat}{t:TypeId}{n:Int}:fzR ρ H (k+1) 1 0 1 (some (t,[.i n]))=dI [n]:=by
 have:=fzR_cl (f:=f1) (ρ:=ρ) (H:=H) (k:=k) (t:=t) (l:=[n]) (n:=1) rfl
 rw[cl_def]at this
 simp only[List.map_cons,List.map_nil,f1_def,List.flatten_cons,List.flatten_nil,List.append_nil]at this
 rw[this];unfold dI;simp only[List.map_cons,List.map_nil,f1_def]
@[simp] theorem fzR_pos{ρ:Nat→Option Nat}{H:Heap}{k:Nat}{t:TypeId}{a b c:List Int}{r q:Int}:fzR ρ H (k+1) 5 0 1 (some (t,[dI a,dI b,dI c,.i r,.i q]))=dPs [⟨a,b,c,r,q⟩]:=by
 have h:=fzR_cl (f:=Pos.cells) (ρ:=ρ) (H:=H) (k:=k) (t:=t) (l:=[⟨a,b,c,r,q⟩]) (n:=1) rfl
 rw[cl_def]at h
 unfold dPs;exact h
@[simp] theorem sl_dI(l:List Int):D.sl 1 (l.map f1)=dI l:=by unfold dI;rfl
@[simp] theorem sl_dPs(l:List Pos):D.sl 5 (l.map Pos.cells)=dPs l:=by unfold dPs;rfl
@[simp] theorem sl_dProg(l:List Stp):D.sl 2 (l.map fS)=dProg l:=by unfold dProg;rfl
def shedAt(ρ:Nat→Option Nat)(H:Heap):Option Ob→Ob
 | some o=>shedOb ρ H o
 | none=>.dead
@[simp] theorem shedAt_row(ρ:Nat→Option Nat)(H:Heap)(t g:Nat)(cs:List D):shedAt ρ H (some (.row t g cs)) = .row t g (cs.map (shed ρ H 40)):=rfl
@[simp] theorem shedAt_map(ρ:Nat→Option Nat)(H:Heap)(kk:KK)(es:List (Value×D)):shedAt ρ H (some (.map kk es)) = .map kk (es.map fun x=>(x.1,shed ρ H 40 x.2)):=rfl
@[simp] theorem shedAt_dead(ρ:Nat→Option Nat)(H:Heap):shedAt ρ H (some .dead) = .dead:=rfl
@[simp] theorem shedAt_dfr(ρ:Nat→Option Nat)(H:Heap):shedAt ρ H (some .dfr) = .dfr:=rfl
@[simp] theorem shedAt_rcd(ρ:Nat→Option Nat)(H:Heap)(rf:Nat)(e:Env)(st:RSt):shedAt ρ H (some (.rcd rf e st)) = .rcd rf (e.map fun x=>(x.1,shed ρ H 40 x.2)) st:=rfl
def cutB(env:Env)(H:Heap)(m:List Nat)(r:Bool)(ks:Keep):St:={ env:=env.map fun p=>(p.1,shed (rho ks) H 40 p.2),H:=ks.map fun p=>if p.2 then shedAt (rho ks) H H[p.1]? else .dead,marks:=m.map fun v=>(rho ks v).getD v,rnd:=r }
def refsB(n:Nat)(env:Env)(H:Heap)(m:List Nat):List Nat:=dedup (((env.map fun p=>topRef n p.2).flatten++((H.take n).map (obRefs n)).flatten++m.filter (n≤·)).filter (· < H.length))
@[simp low] theorem cutE{n:Nat}{live:List Nat}{env:Env}{H:Heap}{m:List Nat}{r:Bool}(h:¬ H.length≤n):cut n live { env:=env,H:=H,marks:=m,rnd:=r }=cutB (forget live env) H m r (keepOf n (refsB n (forget live env) H m)):=by
 unfold cut cutB refsB
 dsimp only
 rw[if_neg h]
 rfl
@[simp] theorem keepOf_0(K:List Nat):keepOf 0 K=K.map fun v=>(v,true):=rfl
@[simp] theorem keepOf_1(K:List Nat):keepOf 1 K=(0,true)::K.map fun v=>(v,true):=rfl
@[simp] theorem keepOf_2(K:List Nat):keepOf 2 K=(0,true)::(1,true)::K.map fun v=>(v,true):=rfl
@[simp] theorem keepOf_3(K:List Nat):keepOf 3 K=(0,true)::(1,true)::(2,true)::K.map fun v=>(v,true):=rfl
@[simp] theorem keepOf_4(K:List Nat):keepOf 4 K=(0,true)::(1,true)::(2,true)::(3,true)::K.map fun v=>(v,true):=rfl
def rhoF(i:Nat):Keep→Nat→Option Nat
 | [],_=>none
 | p::r,v=>if p.2&&p.1 == v then some i else rhoF (i+1) r v
theorem rho_F(ks:Keep)(v:Nat):rho ks v=rhoF 0 ks v:=by
 have key:∀ (ks:Keep) (i:Nat),rhoF i ks v=(ks.findIdx? (fun p=>p.2&&p.1 == v)).map (· + i):=by
  intro ks
  induction ks with
  | nil=>intro i;rfl
  | cons p r ih=>
   intro i
   rw[List.findIdx?_cons]
   unfold rhoF
   split
   ·simp
   ·rw[ih,Option.map_map]
    congr 1;funext x;simp;omega
 rw[key];simp[rho]
@[simp] theorem rho_nil(v:Nat):rho [] v=none:=rfl
@[simp] theorem rho_cons(p:Nat×Bool)(r:Keep)(v:Nat):rho (p::r) v=if (p.2&&p.1 == v)=true then some 0 else rhoF 1 r v:=by
 rw[rho_F];rfl
@[simp] theorem rhoF_nil(i v:Nat):rhoF i [] v=none:=rfl
@[simp] theorem rhoF_cons(i:Nat)(p:Nat×Bool)(r:Keep)(v:Nat):rhoF i (p::r) v=if (p.2&&p.1 == v)=true then some i else rhoF (i+1) r v:=rfl
@[simp] theorem cutB_def(env:Env)(H:Heap)(m:List Nat)(r:Bool)(ks:Keep):cutB env H m r ks = { env:=env.map fun p=>(p.1,shed (rho ks) H 40 p.2),H:=ks.map fun p=>if p.2 then shedAt (rho ks) H H[p.1]? else .dead,marks:=m.map fun v=>(rho ks v).getD v,rnd:=r }:=rfl
@[simp] theorem refsB_def(n:Nat)(env:Env)(H:Heap)(m:List Nat):refsB n env H m=dedup (((env.map fun p=>topRef n p.2).flatten++((H.take n).map (obRefs n)).flatten++m.filter (n≤·)).filter (· < H.length)):=rfl
@[simp] theorem dedup_nil:dedup [] = []:=rfl
@[simp] theorem dedup_cons(x:Nat)(r:List Nat):dedup (x::r)=if x∈r then dedup r else x::dedup r:=rfl
theorem topRef_cl(n:Nat){d:D}(h:closed d=true):topRef n d = []:=by
 cases d<;>first|rfl|cases h
@[simp] theorem topRef_dI(n:Nat)(l:List Int):topRef n (dI l) = []:=rfl
@[simp] theorem topRef_dPs(n:Nat)(l:List Pos):topRef n (dPs l) = []:=rfl
@[simp] theorem topRef_dProg(n:Nat)(l:List Stp):topRef n (dProg l) = []:=rfl
@[simp] theorem topRef_dN{α:Type}(n sz:Nat)(f:α→List D)(l:List α):topRef n (dN sz f l) = []:=by cases l<;>rfl
@[simp] theorem topRef_val(n:Nat)(v:Value):topRef n (.val v) = []:=rfl
@[simp] theorem topRef_emp(n:Nat):topRef n .emp = []:=rfl
@[simp] theorem topRef_agg(n:Nat)(cs:List D):topRef n (.agg cs) = []:=rfl
@[simp] theorem topRef_fptr(n:Nat)(cs:List D):topRef n (.fptr cs) = []:=rfl
@[simp] theorem topRef_sl(n sz:Nat)(es:List (List D)):topRef n (.sl sz es) = []:=rfl
@[simp] theorem topRef_fn(n:Nat)(f:Fn)(a b:List D):topRef n (.fn f a b) = []:=rfl
@[simp] theorem topRef_osl(n v g sz off len:Nat):topRef n (.osl v g sz off len)=if n≤v then [v]else []:=rfl
@[simp] theorem topRef_ptr(n v g off:Nat):topRef n (.ptr v g off)=if n≤v then [v]else []:=rfl
@[simp] theorem topRef_omap(n v:Nat):topRef n (.omap v)=if n≤v then [v]else []:=rfl
@[simp] theorem topRef_yld(n v:Nat):topRef n (.yld v)=if n≤v then [v]else []:=rfl
theorem refs_cl(n:Nat){cs:List D}(h:closedL cs=true):(cs.map (topRef n)).flatten = []:=by
 induction cs with
 | nil=>rfl
 | cons d r ih=>
  simp only[closedL,Bool.and_eq_true]at h
  simp[topRef_cl n h.1,ih h.2]
@[simp] theorem cl_refs(n:Nat){α:Type}{f:α→List D}{sz:Nat}[F:Fl f sz](l:List α):((cl f l).map (topRef n)).flatten = []:=refs_cl n (cl_closed l)
@[simp] theorem obRefs_row(n t g:Nat)(cs:List D):obRefs n (.row t g cs)=(cs.map (topRef n)).flatten:=rfl
@[simp] theorem obRefs_map(n:Nat)(kk:KK)(es:List (Value×D)):obRefs n (.map kk es)=(es.map fun x=>topRef n x.2).flatten:=rfl
@[simp] theorem obRefs_dead(n:Nat):obRefs n .dead = []:=rfl
theorem leave_00{H:Heap}{d:D}(h:H≠[]):leave 0 0 H d=(shed (fun _=>none) H 40 d,[]):=by
 unfold leave
 rw[if_neg (by cases H with|nil=>exact absurd rfl h|cons a l=>simp)]
 rfl
@[simp] theorem leave_cons{o:Ob}{r:Heap}{d:D}:leave 0 0 (o::r) d=(shed (fun _=>none) (o::r) 40 d,[]):=leave_00 (by simp)
attribute [simp] and_assoc Kind.cells Clause.cells dP Pos.cells dG Game.cells Game.board
def XLoopN(T:Tab)(n:Nat)(live:List Nat)(a:IR)(s:St)(K:OutP)(_:Tag (live,a,s,K)):Prop:=Ev T (.loop n live (unfz a) s) (PO K)
def loopU(T:Tab)(n:Nat)(live:List Nat)(a:IR)(K:OutP):OutP:=fun o=>match o with
 | .norm s=>XLoopN T n live a (cut n live s) K .mk
 | o=>K o
def rndA(T:Tab)(v rf:Nat)(b:IR)(dst:Option Nat)(s:St)(K:St→Prop):OutP:=fun o=>match o with
 | .norm s1=>∃ env1,s1.H[v]? = some (.rcd rf env1 .ready)∧XC T b { s1 with H:=s1.H.set v (.rcd rf env1 .busy) } (rndB v rf dst s K)
 | _=>False
theorem XYield.r{T:Tab}{v rf:Nat}{args:List D}{dst:Option Nat}{s:St}{K:St→Prop}{env0:Env}{Rd:RoundA}(hv:s.H[v]? = some (.rcd rf env0 .ready))(hR:T.round rf=some Rd)(hl:args.length=Rd.params.length)
  (ca cb:IR) (ha:unfz ca=Rd.a) (hb:unfz cb=Rd.b)
  (h:XC T ca { env:=setParams Rd.params args env0,H:=s.H,rnd:=true } (rndA T v rf cb dst s K)):XYield T v args dst s K .mk:=by
 refine⟨rf,env0,Rd,hv,hR,hl,?_⟩
 rw[← ha]
 refine(XC.wc h).mono fun o ho=>?_
 cases o with
 | norm s1=>
  obtain⟨env1,h1,h2⟩:=ho
  exact⟨s1,env1,rfl,h1,by rw[← hb];exact XC.wc h2⟩
 | exit=>exact ho.elim
 | ret=>exact ho.elim
def rngK(rf:Nat)(s:St)(K:OutP):D→Heap→Prop:=fun _ H'=>∃ env st,H'[s.H.length+1]? = some (.rcd rf env st)∧oA (rangeOut { s with H:=H'.set (s.H.length+1) .dead,marks:=s.H.length::s.marks } st) K .mk
theorem XRange.r{T:Tab}{rf:Nat}{live:List Nat}{x:X}{s:St}{K:OutP}{f:FuncId}{first cap:List D}{fn:FnA}(hr:s.rnd=false)(hx:ev s.env.get x = .fn (.func f) first cap)(hf:T.fn f=some fn)(hp:fn.full=true)
  (h:Wf T f (first ++ [.yld (s.H.length+1)]++cap) (s.H ++ [.dfr,.rcd rf (forget live s.env) .ready]) (rngK rf s K)):XRange T rf live x s K .mk:=
 Ev.rangeF hr hx hf hp h fun d H' ⟨d',H2,he,env,st,h1,o,h2,h3⟩=>by
  cases he
  exact⟨env,st,o,h1,h2,o,rfl,h3⟩
section
variable{T:Tab}{n:Nat}{live:List Nat}{a:IR}{s:St}{K:OutP}{id:Nat}
theorem XLoop.un(h:XLoopN T s.H.length live a { s with env:=forget live s.env } K .mk):XLoop T live a s K .mk:=Ev.loop h
theorem XLoopN.u(h:XC T a s (loopU T n live a K)):XLoopN T n live a s K .mk:=by
 refine Ev.loopI (XC.wc h) (fun s'' ⟨o,e,k⟩=>?_) fun o ⟨o',e,k⟩ hs=>?_
 ·cases e;exact k
 ·cases e
  cases o with
  | norm=>cases hs
  | exit=>exact⟨_,rfl,k⟩
  | ret=>exact⟨_,rfl,k⟩
@[simp ↓] theorem loopU_norm:loopU T n live a K (.norm s)=XLoopN T n live a (cut n live s) K .mk:=(rfl)
@[simp ↓] theorem loopU_exit:loopU T n live a K (.exit id s)=K (.exit id s):=(rfl)
@[simp ↓] theorem loopU_ret:loopU T n live a K (.ret s)=K (.ret s):=(rfl)
end
theorem Xk{x b:Bool}{P Q:Prop}(k:cond b P Q)(h:x=b:=by first|(show _=true;first|assumption|exact decide_eq_true (by assumption))|(show _=false;first|assumption|exact decide_eq_false (by assumption))):X2 x P Q .mk:=by
 subst h;cases x<;>simpa using k
class PB (x:Bool) (I:outParam (Prop→Prop)) (q:outParam Prop):Prop where
 t:∀ {P:Prop},I P→x=true→P
 f:x=false→q
instance(priority:=low){x:Bool}:PB x (fun P=>x=true→P) (x=false):=⟨fun h e=>h e,id⟩
instance{p:Prop}[Decidable p]:PB (decide p) (fun P=>p→P) (¬p):=⟨fun h e=>h (of_decide_eq_true e),of_decide_eq_false⟩
instance{p q:Prop}[Decidable p][Decidable q]:PB (decide p&&decide q) (fun P=>p→q→P) (¬(p∧q)):=⟨fun h e=>by
 rw[← Bool.decide_and]at e
 exact h (of_decide_eq_true e).1 (of_decide_eq_true e).2,fun e=>by rw[← Bool.decide_and]at e;exact of_decide_eq_false e⟩
instance{p q:Prop}[Decidable p][Decidable q]:PB (decide p||decide q) (fun P=>p∨q→P) (¬(p∨q)):=⟨fun h e=>by
 rw[← Bool.decide_or]at e
 exact h (of_decide_eq_true e),fun e=>by rw[← Bool.decide_or]at e;exact of_decide_eq_false e⟩
theorem Xs{x:Bool}{I:Prop→Prop}{q P Q:Prop}[c:PB x I q](h:I P)(k:q→Q):X2 x P Q .mk:=⟨c.t h,fun e=>k (c.f e)⟩
theorem Yc{T:Tab}{f:FuncId}{args:List D}{dst:Option Nat}{s:St}{K:St→Prop}{fn:FnA}{x:D}(h:Wf T f args [] fun d H'=>d=x∧H' = [])(k:K { s with env:=put s.env dst x })
  (hf:T.fn f=some fn:=by exact rfl) (hp:fn.full=false:=by exact rfl) (hc:closedL args=true:=by simp) (hx:closed x=true:=by simp):XCall T f args dst s K .mk:=XCall.c hf hp h hc hx k
theorem Yt{T:Tab}{f:FuncId}{args:List D}{R:List Fp}{dst:Option Nat}{s:St}{Q:Rc→St→Prop}{fn:FnA}{x:D}(h:Wf T f args [] fun d H'=>d=x∧H' = [])(k:Q ⟨R,[]⟩ { s with env:=put s.env dst x })
  (hf:T.fn f=some fn:=by exact rfl) (hp:fn.full=false:=by exact rfl) (hc:closedL args=true:=by simp) (hx:closed x=true:=by simp):XTCall T f args R dst s Q .mk:=XTCall.c hf hp h hc hx k
theorem Yr{T:Tab}{f:FuncId}{args args':List D}{dst:Option Nat}{s:St}{K:St→Prop}{fn:FnA}{x:D}(h:Wf T f args' [] fun d H'=>d=x∧H' = [])(k:K { s with env:=put s.env dst x })
  (hf:T.fn f=some fn:=by exact rfl) (hp:fn.full=false:=by exact rfl) (hs:args.map (shed (fun _=>none) s.H 40)=args':=by simp) (hx:flat x=true:=by simp[flat]) (hx2:closed x=true:=by simp):XCall T f args dst s K .mk:=XCall.r hf hp h hs hx hx2 k
theorem Yg{T:Tab}{f:FuncId}{args:List D}{H:Heap}(fn:FnA){K:D→Heap→Prop}(h:XC T fn.body { env:=mkEnv args,H:=H } (finK fn.results fn.own H.length K))
  (hf:T.fn f=some fn:=by exact rfl) (hl:args.length≤fn.ntmps:=by exact Nat.le_of_ble_eq_true rfl) (hz:noFz fn.body=true:=by exact rfl):Wf T f args H K:=Wf.x hf hl h hz
theorem Yz{T:Tab}{f:FuncId}{args:List D}{H:Heap}(fn:FnA)(c:IR){K:D→Heap→Prop}(h:XC T c { env:=mkEnv args,H:=H } (finK fn.results fn.own H.length K))
  (hf:T.fn f=some fn:=by exact rfl) (hl:args.length≤fn.ntmps:=by exact Nat.le_of_ble_eq_true rfl) (hc:unfz c=fn.body:=by simp only[unfz_ins,unfz_insC];exact unfz_no rfl):Wf T f args H K:=Wf.xz fn.own c hf hl hc h
end Go.AL
