/- Part 3 of the proof of skewer.skewerlaw15.TableSlices. -/
import Derived.Test.YtnaefnajkaohgaaGreatDoorC01
import Derived.Test.YtnaefnajkaohgaaGreatDoorC02
import Derived.Laws.IdiomRangeMap
import Derived.RangeFuncLeaves
import Derived.OwnWalkIn
set_option linter.all false
namespace Go.AL
open Go
def i64B:Int→Bool
 | .ofNat m=>Nat.ble m 9223372036854775807
 | .negSucc m=>Nat.ble m 9223372036854775807
theorem i64B_iff(n:Int):i64B n=true↔inI64 n:=by
 unfold inI64
 cases n with
 | ofNat m=>
  have e:i64B (.ofNat m)=Nat.ble m 9223372036854775807:=rfl
  rw[e,Nat.ble_eq]
  have:(Int.ofNat m)=(m:Int):=rfl
  omega
 | negSucc m=>
  have e:i64B (.negSucc m)=Nat.ble m 9223372036854775807:=rfl
  rw[e,Nat.ble_eq]
  have:Int.negSucc m = -((m:Int)+1):=Int.negSucc_eq m
  omega
instance(n:Int):Decidable (inI64 n):=decidable_of_iff (i64B n=true) (i64B_iff n)
def leB(k:Nat):Int→Bool
 | .ofNat m=>Nat.ble m k
 | .negSucc _=>true
def leK(n:Int)(k:Nat):Prop:=n≤(k:Int)
theorem leB_iff(n:Int)(k:Nat):leB k n=true↔leK n k:=by
 unfold leK
 cases n with
 | ofNat m=>
  have e:leB k (.ofNat m)=Nat.ble m k:=rfl
  rw[e,Nat.ble_eq]
  have:(Int.ofNat m)=(m:Int):=rfl
  omega
 | negSucc m=>
  have e:leB k (.negSucc m)=true:=rfl
  rw[e]
  have:Int.negSucc m = -((m:Int)+1):=Int.negSucc_eq m
  simp only[true_iff]
  omega
instance(n:Int)(k:Nat):Decidable (leK n k):=decidable_of_iff (leB k n=true) (leB_iff n k)
inductive Dl where
 | no
 | cells (v o:Nat) (xs:List D)
 | obj (v:Nat) (ob:Ob)
 | new (ob:Ob)
 deriving Inhabited
def Dl.app(H:Heap)(al:Al):Dl→Heap
 | .no=>H
 | .cells v o xs=>match H[v]? with
  | some (.row t g cs)=>H.set v (.row t g (cs.take o++xs++cs.drop (o+xs.length)))
  | _=>H
 | .obj v ob=>H.set v ob
 | .new ob=>al.2 ob
abbrev R:=Option (D×Dl)
def ret(d:D):R:=some (d,.no)
def arithO(op:BinOp)(k:IntKind)(a b:Int):Option D:=
 match op with
 | .add=>if k = .i64 then(if inI64 (a+b)then some (.val (.int .i64 (a+b)))else none)else some (.val (.int k (k.wrap (a+b))))
 | .sub=>if k = .i64 then(if inI64 (a-b)then some (.val (.int .i64 (a-b)))else none)else some (.val (.int k (k.wrap (a-b))))
 | .mul=>if k = .i64 then(if inI64 (a*b)then some (.val (.int .i64 (a*b)))else none)else some (.val (.int k (k.wrap (a*b))))
 | .quo=>if b=0 then none else some (.val (.int k (k.wrap (a.tdiv b))))
 | .rem=>if b=0 then none else some (.val (.int k (a.tmod b)))
 | .and | .or | .xor | .andNot=>some (.val (.int k (bits op k a b)))
 | .eql=>some (.val (.bool (a == b)))
 | .neq=>some (.val (.bool (a != b)))
 | .lss=>some (.val (.bool (decide (a<b))))
 | .leq=>some (.val (.bool (decide (a≤b))))
 | .gtr=>some (.val (.bool (decide (a>b))))
 | .geq=>some (.val (.bool (decide (a≥b))))
 | _=>none
def shiftO(op:BinOp)(k:IntKind)(a b:Int):Option D:=
 match op with
 | .shl=>if 0≤b then some (.val (.int k (k.wrap (a*2 ^ (min b.toNat k.bits)))))else none
 | .shr=>if 0≤b then some (.val (.int k (a.fdiv (2 ^ (min b.toNat k.bits)))))else none
 | _=>none
def strO(op:BinOp)(a b:ByteArray):Option D:=
 match op with
 | .eql=>some (.val (.bool (a.data.toList == b.data.toList)))
 | .neq=>some (.val (.bool (!(a.data.toList == b.data.toList))))
 | .add=>if leK ((a.size+b.size:Nat):Int) 9223372036854775807 then some (.val (.string (a++b)))else none
 | _=>none
def binO(op:BinOp)(x y:D):Option D:=
 match x,y with
 | .val (.int k a),.val (.int k' b)=>if isShift op then shiftO op k a b else if k=k' then arithO op k a b else none
 | .val (.string a),.val (.string b)=>strO op a b
 | _,_=>none
def unO(op:UnOp)(x:D):Option D:=
 match op,x with
 | .not,.val (.bool b)=>some (.val (.bool (!b)))
 | .neg,.val (.int .i64 n)=>if inI64 (-n)then some (.val (.int .i64 (-n)))else none
 | .xor,.val (.int k n)=>some (.val (.int k (bits .xor k (if k.signed then -1 else k.max) n)))
 | _,_=>none
def eqO(isagg:Bool)(ls:List Leaf)(neg:Bool)(x y:D):Option D:=
 match isagg,x,y with
 | true,.agg a,.agg b=>match cellsEq ls a b with
  | some r=>some (.val (.bool (if neg then !r else r)))
  | none=>none
 | false,x,y=>match cellsEq ls [x] [y]with
  | some r=>some (.val (.bool (if neg then !r else r)))
  | none=>none
 | _,_,_=>none
def pickO(c a b:D):Option D:=
 match c with
 | .val (.bool x)=>some (if x then a else b)
 | _=>none
def ld1O(x:D)(H:Heap):Option D:=
 match x with
 | .ptr v g o=>match rowAt H v g with
  | some (_,cs)=>cs[o]?
  | none=>none
 | .fptr cs=>cs[0]?
 | _=>none
def ldNO(n:Nat)(x:D)(H:Heap):Option D:=
 match x with
 | .ptr v g o=>match rowAt H v g with
  | some (_,cs)=>if o+n≤cs.length then some (.agg ((cs.drop o).take n))else none
  | none=>none
 | .fptr cs=>if n≤cs.length then some (.agg (cs.take n))else none
 | _=>none
def st1O(a x:D)(H:Heap):R:=
 match a with
 | .ptr v g o=>match rowAt H v g with
  | some (_,cs)=>if o<cs.length∧one x=true then some (.any,.cells v o [x])else none
  | none=>none
 | _=>none
def stNO(n:Nat)(a x:D)(H:Heap):R:=
 match a,cellsOf x with
 | .ptr v g o,some xs=>match rowAt H v g with
  | some (_,cs)=>if xs.length=n∧o+n≤cs.length then some (.any,.cells v o xs)else none
  | none=>none
 | _,_=>none
def boxO(t:TypeId)(x:D)(n:Nat):R:=
 match cellsOf x with
 | some cs=>some (.ptr n 0 0,.new (.row t 0 cs))
 | none=>none
def buildO(env:EnvF)(z:List D)(ps:List (Nat×Nat×X)):Option D:=
 match partsOf env ps with
 | some l=>match lay l z with
  | some cs=>some (.agg cs)
  | none=>none
 | none=>none
def buildSlO(env:EnvF)(t sz:Nat)(z:List D)(m:Nat)(ps:List (Nat×X))(n:Nat):R:=
 match partsOf env (ps.map fun p=>(p.1*sz,sz,p.2))with
 | some l=>match lay l (List.replicate m z).flatten with
  | some cs=>some (.osl n 0 sz 0 m,.new (.row t 0 cs))
  | none=>none
 | none=>none
def fieldAO(off:Nat)(x:D):Option D:=
 match x with
 | .ptr v g o=>some (.ptr v g (o+off))
 | .fptr cs=>some (.fptr (cs.drop off))
 | _=>none
def fieldO(off n:Nat)(isagg:Bool)(x:D):Option D:=
 match x with
 | .agg cs=>if isagg then(if off+n≤cs.length then some (.agg ((cs.drop off).take n))else none)else cs[off]?
 | _=>none
def idxAO(sz:Nat)(x i:D):Option D:=
 match x,i with
 | .sl sz' es,.val (.int _ n)=>if sz'=sz∧0≤n∧n<es.length then some (.fptr (es.getD n.toNat []))else none
 | .osl v g sz' off len,.val (.int _ n)=>if sz'=sz∧0≤n∧n<len then some (.ptr v g ((off+n.toNat)*sz))else none
 | _,_=>none
def idxArrO(sz n:Nat)(x i:D):Option D:=
 match x,i with
 | .ptr v g o,.val (.int _ k)=>if 0≤k∧k<n then some (.ptr v g (o+k.toNat*sz))else none
 | .fptr cs,.val (.int _ k)=>if 0≤k∧k<n then some (.fptr (cs.drop (k.toNat*sz)))else none
 | _,_=>none
def idxO(sz n:Nat)(isagg:Bool)(x i:D):Option D:=
 match x,i with
 | .agg cs,.val (.int _ k)=>if 0≤k∧k<n then fieldO (k.toNat*sz) sz isagg (.agg cs)else none
 | _,_=>none
def idxStrO(x i:D):Option D:=
 match x,i with
 | .val (.string s),.val (.int _ k)=>if 0≤k∧k<s.size then some (.val (.int .u8 ((s.data.toList.getD k.toNat 0).toNat)))else none
 | _,_=>none
def lookupO(kk':KK)(z:D)(ok:Bool)(m k:D)(H:Heap):Option D:=
 match m,keyOf k with
 | .omap v,some kv=>match mapAt H v with
  | some (kk,es)=>if kk=kk'∧kk.has kv=true then(match mapGet es kv with
    | some d=>some (if ok then .tup [d,.val (.bool true)]else d)
    | none=>some (if ok then .tup [z,.val (.bool false)]else z))else none
  | none=>none
 | _,_=>none
def mapUpdO(kk':KK)(m k x:D)(H:Heap):R:=
 match m,keyOf k with
 | .omap v,some kv=>match mapAt H v with
  | some (kk,es)=>if kk=kk'∧kk.has kv=true then some (.any,.obj v (.map kk (mapSet es kv x)))else none
  | none=>none
 | _,_=>none
def extO(x:D)(i:Nat):Option D:=
 match x with
 | .tup ds=>ds[i]?
 | _=>none
def mkslO(t sz bytes:Nat)(z:List D)(l c:D)(v:Nat):R:=
 match l,c with
 | .val (.int _ n),.val (.int _ m)=>if 0≤n∧n≤m∧leK m 9223372036854775807∧leK ((bytes:Int)*m) 281474976710656 then some (.osl v 0 sz 0 n.toNat,.new (.row t 0 (List.replicate m.toNat z).flatten))else none
 | _,_=>none
def slcO(env:EnvF)(sz:Nat)(x:D)(lo hi:Option X):Option D:=
 match x with
 | .sl sz' es=>match boundOf env lo 0,boundOf env hi es.length with
  | some l,some h=>if sz'=sz∧0≤l∧l≤h∧h≤es.length then some (.sl sz ((es.drop l.toNat).take (h.toNat-l.toNat)))else none
  | _,_=>none
 | .osl v g sz' off len=>match boundOf env lo 0,boundOf env hi len with
  | some l,some h=>if sz'=sz∧0≤l∧l≤h∧h≤len then some (.osl v g sz (off+l.toNat) (h.toNat-l.toNat))else none
  | _,_=>none
 | .emp=>match boundOf env lo 0,boundOf env hi 0 with
  | some l,some h=>if l=0∧h=0 then some .emp else none
  | _,_=>none
 | _=>none
def slcSO(env:EnvF)(x:D)(lo hi:Option X):Option D:=
 match x with
 | .val (.string s)=>match boundOf env lo 0,boundOf env hi s.size with
  | some l,some h=>if 0≤l∧l≤h∧h≤s.size then some (.val (.string (s.extract l.toNat h.toNat)))else none
  | _,_=>none
 | _=>none
def appO(t sz bytes:Nat)(x y:D)(H:Heap)(vn:Nat):R:=
 match sliceCells sz H y with
 | some (ys,n)=>match x with
  | .osl v g sz' 0 len=>match rowAt H v g with
   | some (t',cs)=>if sz'=sz∧t'=t∧len*sz≤cs.length∧(len+n)*bytes≤140737488355328∧len+n≤9223372036854775807 then
     some (.osl v (g+1) sz 0 (len+n),.obj v (.row t (g+1) (cs.take (len*sz)++ys)))else none
   | none=>none
  | .emp=>if n=0 then some (.emp,.no)else if n*bytes≤140737488355328∧n≤9223372036854775807 then some (.osl vn 0 sz 0 n,.new (.row t 0 ys))else none
  | _=>none
 | none=>none
def copyO(sz:Nat)(x y:D)(H:Heap):R:=
 match x,sliceCells sz H y with
 | .osl v g sz' off len,some (ys,n)=>match rowAt H v g with
  | some (t,cs)=>if sz'=sz∧(off+len)*sz≤cs.length then
    some (.val (.int .i64 (min n len:Nat)),.obj v (.row t g (cs.take (off*sz)++ys.take (min n len*sz)++cs.drop (off*sz+min n len*sz))))else none
  | none=>none
 | .emp,some _=>some (.val (.int .i64 0),.no)
 | _,_=>none
def lenO(k:LenOf)(x:D)(H:Heap):Option D:=
 match k,x with
 | .slice,.sl _ es=>some (.val (.int .i64 es.length))
 | .slice,.emp=>some (.val (.int .i64 0))
 | .slice,.osl _ _ _ _ len=>some (.val (.int .i64 len))
 | .string,.val (.string s)=>some (.val (.int .i64 s.size))
 | .map,.omap v=>match mapAt H v with
  | some (_,es)=>some (.val (.int .i64 es.length))
  | none=>none
 | _,_=>none
def minmaxO(env:EnvF)(isMax:Bool)(xs:List X):Option D:=
 match intsOf env xs with
 | some [a,b]=>some (.val (.int .i64 (if isMax then max a b else min a b)))
 | some [a,b,c]=>some (.val (.int .i64 (if isMax then max (max a b) c else min (min a b) c)))
 | _=>none
def nilckO(x:D):Option D:=
 match x with
 | .ptr v g o=>some (.ptr v g o)
 | .fptr cs=>some (.fptr cs)
 | .fn (.func f) a b=>some (.fn (.func f) a b)
 | .yld v=>some (.yld v)
 | _=>none
def convO(k:IntKind)(x:D):Option D:=
 match x with
 | .val (.int _ n)=>some (.val (.int k (k.wrap n)))
 | _=>none
def b2sO(x:D)(H:Heap):Option D:=
 match sliceCells 1 H x with
 | some (ys,_)=>match bytesOf ys with
  | some ns=>some (.val (.string (ns.foldl (fun r n=>r.push (UInt8.ofNat n.toNat)) ByteArray.empty)))
  | none=>none
 | none=>none
def lift:Option D→R
 | some d=>some (d,.no)
 | none=>none
def aopO(env:EnvF)(H:Heap)(n:Nat):IOp→R
 | .mv x=>lift (some (ev env x))
 | .pick c a b=>lift (pickO (ev env c) (ev env a) (ev env b))
 | .box t x=>boxO t (ev env x) n
 | .alloc t z=>some (.ptr n 0 0,.new (.row t 0 z))
 | .build z ps=>lift (buildO env z ps)
 | .buildSl t sz z m ps=>buildSlO env t sz z m ps n
 | .ld1 x=>lift (ld1O (ev env x) H)
 | .ldN m x=>lift (ldNO m (ev env x) H)
 | .st1 a x=>st1O (ev env a) (ev env x) H
 | .stN m a x=>stNO m (ev env a) (ev env x) H
 | .nilck x=>lift (nilckO (ev env x))
 | .arith op x y=>lift (binO op (ev env x) (ev env y))
 | .eqS isagg ls neg x y=>lift (eqO isagg ls neg (ev env x) (ev env y))
 | .un op x=>lift (unO op (ev env x))
 | .conv k x=>lift (convO k (ev env x))
 | .b2s x=>lift (b2sO (ev env x) H)
 | .mkfn f first cap=>lift (some (.fn f (first.map (ev env)) (cap.map (ev env))))
 | .mkmap kk=>some (.omap n,.new (.map kk []))
 | .mksl t sz bytes z l c=>mkslO t sz bytes z (ev env l) (ev env c) n
 | .slc sz x lo hi=>lift (slcO env sz (ev env x) lo hi)
 | .slcS x lo hi=>lift (slcSO env (ev env x) lo hi)
 | .fieldA off x=>lift (fieldAO off (ev env x))
 | .field off m isagg x=>lift (fieldO off m isagg (ev env x))
 | .idxA sz x i=>lift (idxAO sz (ev env x) (ev env i))
 | .idxArr sz m x i=>lift (idxArrO sz m (ev env x) (ev env i))
 | .idx sz m isagg x i=>lift (idxO sz m isagg (ev env x) (ev env i))
 | .idxStr x i=>lift (idxStrO (ev env x) (ev env i))
 | .lookup kk z ok m k=>lift (lookupO kk z ok (ev env m) (ev env k) H)
 | .mapUpd kk m k x=>mapUpdO kk (ev env m) (ev env k) (ev env x) H
 | .ext x i=>lift (extO (ev env x) i)
 | .call _ _ | .callN _ _ | .callv _ _=>none
 | .app t sz bytes x y=>appO t sz bytes (ev env x) (ev env y) H n
 | .copy sz x y=>copyO sz (ev env x) (ev env y) H
 | .len k x=>lift (lenO k (ev env x) H)
 | .minmax isMax xs=>lift (minmaxO env isMax xs)
 | .nilS .. | .capE .. | .appZ .. | .clr .. | .rangeS .. | .nextS .. | .rangeM .. | .nextM .. | .entry .. => none
section
variable{env:EnvF}{H:Heap}{al:Al}{d:D}{δ:Dl}{K:Kont}
theorem pick_K{a b c:D}(h:pickO a b c=some d)(hk:K d H):pickK a b c H K:=by
 unfold pickO at h
 unfold pickK
 (repeat' split at h)<;>simp_all
theorem ld1_K{x:D}(h:ld1O x H=some d)(hk:K d H):ld1K x H K:=by
 unfold ld1O at h
 unfold ld1K
 (repeat' split at h)<;>simp_all
theorem ldN_K{n:Nat}{x:D}(h:ldNO n x H=some d)(hk:K d H):ldNK n x H K:=by
 unfold ldNO at h
 unfold ldNK
 (repeat' split at h)<;>simp_all
theorem build_K{z:List D}{ps:List (Nat×Nat×X)}(h:buildO env z ps=some d)(hk:K d H):buildK env z ps H K:=by
 unfold buildO at h
 unfold buildK
 (repeat' split at h)<;>simp_all
theorem nilck_K{x:D}(h:nilckO x=some d)(hk:K d H):nilckK x H K:=by
 unfold nilckO at h
 unfold nilckK
 (repeat' split at h)<;>simp_all
theorem un_K{op:UnOp}{x:D}(h:unO op x=some d)(hk:K d H):unK op x H K:=by
 unfold unO at h
 unfold unK
 (repeat' split at h)<;>simp_all
theorem eq_K{b:Bool}{ls:List Leaf}{neg:Bool}{x y:D}(h:eqO b ls neg x y=some d)(hk:K d H):eqK b ls neg x y H K:=by
 unfold eqO at h
 unfold eqK
 (repeat' split at h)<;>simp_all
theorem conv_K{k:IntKind}{x:D}(h:convO k x=some d)(hk:K d H):convK k x H K:=by
 unfold convO at h
 unfold convK
 (repeat' split at h)<;>simp_all
theorem b2s_K{x:D}(h:b2sO x H=some d)(hk:K d H):b2sK x H K:=by
 unfold b2sO at h
 unfold b2sK
 (repeat' split at h)<;>simp_all
theorem slc_K{sz:Nat}{x:D}{lo hi:Option X}(h:slcO env sz x lo hi=some d)(hk:K d H):slcK env sz x lo hi H K:=by
 unfold slcO at h
 unfold slcK
 (repeat' split at h)<;>simp_all
theorem slcS_K{x:D}{lo hi:Option X}(h:slcSO env x lo hi=some d)(hk:K d H):slcSK env x lo hi H K:=by
 unfold slcSO at h
 unfold slcSK
 (repeat' split at h)<;>simp_all
theorem fieldA_K{off:Nat}{x:D}(h:fieldAO off x=some d)(hk:K d H):fieldAK off x H K:=by
 unfold fieldAO at h
 unfold fieldAK
 (repeat' split at h)<;>simp_all
theorem field_K{off n:Nat}{b:Bool}{x:D}(h:fieldO off n b x=some d)(hk:K d H):fieldK off n b x H K:=by
 unfold fieldO at h
 unfold fieldK
 (repeat' split at h)<;>simp_all
theorem idxA_K{sz:Nat}{x i:D}(h:idxAO sz x i=some d)(hk:K d H):idxAK sz x i H K:=by
 unfold idxAO at h
 unfold idxAK
 (repeat' split at h)<;>simp_all
theorem idxArr_K{sz n:Nat}{x i:D}(h:idxArrO sz n x i=some d)(hk:K d H):idxArrK sz n x i H K:=by
 unfold idxArrO at h
 unfold idxArrK
 (repeat' split at h)<;>simp_all
theorem idxStr_K{x i:D}(h:idxStrO x i=some d)(hk:K d H):idxStrK x i H K:=by
 unfold idxStrO at h
 unfold idxStrK
 (repeat' split at h)<;>simp_all
theorem lookup_K{kk:KK}{z:D}{ok:Bool}{m k:D}(h:lookupO kk z ok m k H=some d)(hk:K d H):lookupK kk z ok m k H K:=by
 unfold lookupO at h
 unfold lookupK
 split at h
 ·split at h
  ·split at h
   ·rename_i hc
    obtain⟨rfl,hc⟩:=hc
    simp only[*,true_and]
    split at h
    ·rename_i heq;cases h;simp only[heq];exact hk
    ·rename_i heq;cases h;simp only[heq];exact hk
   ·cases h
  ·cases h
 ·cases h
theorem ext_K{x:D}{i:Nat}(h:extO x i=some d)(hk:K d H):extK x i H K:=by
 unfold extO at h
 unfold extK
 (repeat' split at h)<;>simp_all
theorem len_K{k:LenOf}{x:D}(h:lenO k x H=some d)(hk:K d H):lenK k x H K:=by
 unfold lenO at h
 unfold lenK
 (repeat' split at h)<;>simp_all
theorem minmax_K{b:Bool}{xs:List X}(h:minmaxO env b xs=some d)(hk:K d H):minmaxK env b xs H K:=by
 unfold minmaxO at h
 unfold minmaxK
 (repeat' split at h)<;>simp_all
theorem arith_K{op:BinOp}{k:IntKind}{a b:Int}(h:arithO op k a b=some d)(hk:K d H):arithK op k a b H K:=by
 unfold arithO at h
 unfold arithK
 (repeat' split at h)<;>simp_all
theorem shift_K{op:BinOp}{k:IntKind}{a b:Int}(h:shiftO op k a b=some d)(hk:K d H):shiftK op k a b H K:=by
 unfold shiftO at h
 unfold shiftK
 (repeat' split at h)<;>simp_all
theorem str_K{op:BinOp}{a b:ByteArray}(h:strO op a b=some d)(hk:K d H):strK op a b H K:=by
 unfold strO at h
 unfold strK
 (repeat' split at h)<;>simp_all [leK]
theorem box_K{t:TypeId}{x:D}(h:boxO t x al.1=some (d,δ))(hk:K d (δ.app H al)):boxK t x al K:=by
 unfold boxO at h
 unfold boxK
 (repeat' split at h)<;>cases h<;>simp_all [Dl.app]
theorem buildSl_K{t sz:Nat}{z:List D}{m:Nat}{ps:List (Nat×X)}(h:buildSlO env t sz z m ps al.1=some (d,δ))(hk:K d (δ.app H al)):buildSlK env t sz z m ps al K:=by
 unfold buildSlO at h
 unfold buildSlK
 (repeat' split at h)<;>cases h<;>simp_all [Dl.app]
theorem rowAt_get{v g:Nat}{x:TypeId×List D}(h:rowAt H v g=some x):H[v]? = some (.row x.1 g x.2):=by
 unfold rowAt at h
 split at h
 ·split at h
  ·rename_i e;subst e;cases h;assumption
  ·cases h
 ·cases h
theorem st1_K{a x:D}(h:st1O a x H=some (d,δ))(hk:K d (δ.app H al)):st1K a x H K:=by
 unfold st1O at h
 unfold st1K
 split at h
 ·split at h
  ·rename_i v g o _ t cs hrow
   split at h
   ·rename_i hc
    cases h
    simp only[hrow]
    refine⟨hc.1,hc.2,?_⟩
    simp only[Dl.app,rowAt_get hrow]at hk
    have e:cs.set o x=cs.take o ++ [x]++cs.drop (o + [x].length):=by
     rw[List.set_eq_take_append_cons_drop,if_pos hc.1];simp
    rw[e]
    exact hk
   ·cases h
  ·cases h
 ·cases h
theorem stN_K{n:Nat}{a x:D}(h:stNO n a x H=some (d,δ))(hk:K d (δ.app H al)):stNK n a x H K:=by
 unfold stNO at h
 unfold stNK
 split at h
 ·split at h
  ·rename_i v g o xs _ _ t cs hrow
   split at h
   ·rename_i hc
    cases h
    simp only[*]
    refine⟨trivial,trivial,?_⟩
    simp only[Dl.app,rowAt_get hrow]at hk
    rw[hc.1]at hk
    exact hk
   ·cases h
  ·cases h
 ·cases h
theorem mksl_K{t sz bytes:Nat}{z:List D}{l c:D}(h:mkslO t sz bytes z l c al.1=some (d,δ))(hk:K d (δ.app H al)):mkslK t sz bytes z l c al K:=by
 unfold mkslO at h
 unfold mkslK
 (repeat' split at h)<;>cases h<;>simp_all [Dl.app,leK]
theorem mapUpd_K{kk:KK}{m k x:D}(h:mapUpdO kk m k x H=some (d,δ))(hk:K d (δ.app H al)):mapUpdK kk m k x H K:=by
 unfold mapUpdO at h
 unfold mapUpdK
 split at h
 ·split at h
  ·split at h
   ·rename_i hc
    obtain⟨rfl,hc⟩:=hc
    cases h
    simp only[*,true_and]
    exact hk
   ·cases h
  ·cases h
 ·cases h
theorem app_K{t sz bytes:Nat}{x y:D}(h:appO t sz bytes x y H al.1=some (d,δ))(hk:K d (δ.app H al)):appK t sz bytes x y H al K:=by
 unfold appO at h
 unfold appK
 (repeat' split at h)<;>cases h<;>simp_all [Dl.app]
theorem copy_K{sz:Nat}{x y:D}(h:copyO sz x y H=some (d,δ))(hk:K d (δ.app H al)):copyK sz x y H K:=by
 unfold copyO at h
 unfold copyK
 (repeat' split at h)<;>cases h<;>simp_all [Dl.app]
theorem bin_K{op:BinOp}{x y:D}(h:binO op x y=some d)(hk:K d H):binK op x y H K:=by
 unfold binO at h
 unfold binK
 split at h
 ·split at h
  ·rename_i hs;simp only[hs,if_true];exact shift_K h hk
  ·rename_i hs
   simp only[hs]
   split at h
   ·rename_i e;exact⟨e,arith_K h hk⟩
   ·cases h
 ·exact str_K h hk
 ·cases h
theorem idx_K{sz n:Nat}{b:Bool}{x i:D}(h:idxO sz n b x i=some d)(hk:K d H):idxK sz n b x i H K:=by
 unfold idxO at h
 unfold idxK
 split at h
 ·split at h
  ·rename_i hc;exact⟨hc,field_K h hk⟩
  ·cases h
 ·cases h
theorem lift_some{o:Option D}(h:lift o=some (d,δ)):o=some d∧δ = .no:=by
 cases o<;>simp[lift]at h
 exact⟨by rw[h.1],h.2.symm⟩
theorem aop_of_aopO{io:IOp}(h:aopO env H al.1 io=some (d,δ))(hk:K d (δ.app H al)):aop env H al K io:=by
 cases io<;>simp only[aopO]at h<;>simp only[aop]
 case mv=>obtain⟨h2,rfl⟩:=lift_some h;cases h2;exact hk
 case mkfn=>obtain⟨h2,rfl⟩:=lift_some h;cases h2;exact hk
 case alloc=>cases h;exact hk
 case mkmap=>cases h;exact hk
 case call=>cases h
 case callN=>cases h
 case callv=>cases h
 case nilS=>cases h
 case capE=>cases h
 case appZ=>cases h
 case clr=>cases h
 case rangeS=>cases h
 case nextS=>cases h
 case rangeM=>cases h
 case nextM=>cases h
 case entry=>cases h
 case box=>exact box_K h hk
 case buildSl=>exact buildSl_K h hk
 case st1=>exact st1_K h hk
 case stN=>exact stN_K h hk
 case mksl=>exact mksl_K h hk
 case mapUpd=>exact mapUpd_K h hk
 case app=>exact app_K h hk
 case copy=>exact copy_K h hk
 case pick=>obtain⟨h2,rfl⟩:=lift_some h;exact pick_K h2 hk
 case build=>obtain⟨h2,rfl⟩:=lift_some h;exact build_K h2 hk
 case ld1=>obtain⟨h2,rfl⟩:=lift_some h;exact ld1_K h2 hk
 case ldN=>obtain⟨h2,rfl⟩:=lift_some h;exact ldN_K h2 hk
 case nilck=>obtain⟨h2,rfl⟩:=lift_some h;exact nilck_K h2 hk
 case arith=>obtain⟨h2,rfl⟩:=lift_some h;exact bin_K h2 hk
 case eqS=>obtain⟨h2,rfl⟩:=lift_some h;exact eq_K h2 hk
 case un=>obtain⟨h2,rfl⟩:=lift_some h;exact un_K h2 hk
 case conv=>obtain⟨h2,rfl⟩:=lift_some h;exact conv_K h2 hk
 case b2s=>obtain⟨h2,rfl⟩:=lift_some h;exact b2s_K h2 hk
 case slc=>obtain⟨h2,rfl⟩:=lift_some h;exact slc_K h2 hk
 case slcS=>obtain⟨h2,rfl⟩:=lift_some h;exact slcS_K h2 hk
 case fieldA=>obtain⟨h2,rfl⟩:=lift_some h;exact fieldA_K h2 hk
 case field=>obtain⟨h2,rfl⟩:=lift_some h;exact field_K h2 hk
 case idxA=>obtain⟨h2,rfl⟩:=lift_some h;exact idxA_K h2 hk
 case idxArr=>obtain⟨h2,rfl⟩:=lift_some h;exact idxArr_K h2 hk
 case idx=>obtain⟨h2,rfl⟩:=lift_some h;exact idx_K h2 hk
 case idxStr=>obtain⟨h2,rfl⟩:=lift_some h;exact idxStr_K h2 hk
 case lookup=>obtain⟨h2,rfl⟩:=lift_some h;exact lookup_K h2 hk
 case ext=>obtain⟨h2,rfl⟩:=lift_some h;exact ext_K h2 hk
 case len=>obtain⟨h2,rfl⟩:=lift_some h;exact len_K h2 hk
 case minmax=>obtain⟨h2,rfl⟩:=lift_some h;exact minmax_K h2 hk
end
end Go.AL
namespace Go.AL
open Go
mutual
def flat:D→Bool
 | .any | .val _ | .emp=>true
 | .agg cs | .tup cs=>flatL cs
 | .sl _ es=>es.isEmpty
 | _=>false
def flatL:List D→Bool
 | []=>true
 | d::ds=>flat d&&flatL ds
end
def chunks(sz:Nat):Nat→List D→List (List D)
 | 0,_=>[]
 | n+1,cs=>cs.take sz::chunks sz n (cs.drop sz)
def shed(ρ:Nat→Option Nat)(H:Heap):Nat→D→D
 | 0,d=>if closed d then d else .any
 | k+1,d=>if closed d then d else match d with
  | .agg cs=>.agg (cs.map (shed ρ H k))
  | .tup cs=>.tup (cs.map (shed ρ H k))
  | .sl sz es=>.sl sz (es.map (·.map (shed ρ H k)))
  | .fptr cs=>.fptr (cs.map (shed ρ H k))
  | .fn f a b=>.fn f (a.map (shed ρ H k)) (b.map (shed ρ H k))
  | .osl v g sz off len=>match ρ v with
   | some v'=>.osl v' g sz off len
   | none=>match rowAt H v g with
    | some (_,cs)=>if (off+len)*sz≤cs.length then .sl sz (chunks sz len ((cs.drop (off*sz)).map (shed ρ H k)))else .any
    | none=>.any
  | .ptr v g off=>match ρ v with
   | some v'=>.ptr v' g off
   | none=>match rowAt H v g with
    | some (_,cs)=>.fptr ((cs.drop off).map (shed ρ H k))
    | none=>.any
  | .omap v=>match ρ v with
   | some v'=>.omap v'
   | none=>.any
  | .yld v=>match ρ v with
   | some v'=>.yld v'
   | none=>.any
  | d=>d
def shedOb(ρ:Nat→Option Nat)(H:Heap):Ob→Ob
 | .row t g cs=>.row t g (cs.map (shed ρ H 40))
 | .map kk es=>.map kk (es.map fun x=>(x.1,shed ρ H 40 x.2))
 | .rcd rf env st=>.rcd rf (env.map fun x=>(x.1,shed ρ H 40 x.2)) st
 | .siter s p=>.siter s p
 | .miter m since seen=>.miter (shed ρ H 40 m) since seen
 | .dfr=>.dfr
 | .dead=>.dead
 | .hole=>.dead
abbrev Keep:=List (Nat×Bool)
def rho(ks:Keep)(v:Nat):Option Nat:=ks.findIdx? (fun p=>p.2&&p.1 == v)
def shedH(ks:Keep)(H:Heap):Heap:=ks.map fun p=>if p.2 then(match H[p.1]? with|some o=>shedOb (rho ks) H o|none=>.dead)else .dead
def topRef(n:Nat):D→List Nat
 | .osl v _ _ _ _=>if n≤v then [v]else []
 | .ptr v _ _=>if n≤v then [v]else []
 | .omap v=>if n≤v then [v]else []
 | .yld v=>if n≤v then [v]else []
 | _=>[]
def obRefs(n:Nat):Ob→List Nat
 | .row _ _ cs=>(cs.map (topRef n)).flatten
 | .map _ es=>(es.map fun x=>topRef n x.2).flatten
 | _=>[]
def dedup:List Nat→List Nat
 | []=>[]
 | x::r=>if x∈r then dedup r else x::dedup r
def keepOf(n:Nat)(K:List Nat):Keep:=((List.range n).map fun v=>(v,true))++K.map fun v=>(v,true)
def forget(live:List Nat)(env:Env):Env:=live.map fun k=>(k,env.get k)
structure St where
 env:Env
 H:Heap
 marks:List Nat:=[]
 rnd:Bool:=false
 deriving Inhabited
def cut(n:Nat)(live:List Nat)(s:St):St:=
 let env:=forget live s.env
 if s.H.length≤n then{ s with env:=env }else
 let K:=dedup (((env.map fun p=>topRef n p.2).flatten++((s.H.take n).map (obRefs n)).flatten++s.marks.filter (n≤·)).filter (· < s.H.length))
 let ks:=keepOf n K
 { s with env:=env.map fun p=>(p.1,shed (rho ks) s.H 40 p.2),H:=shedH ks s.H,marks:=s.marks.map fun v=>(rho ks v).getD v }
def ownRefs(n:Nat):D→List Nat
 | .osl v _ _ 0 _=>if n≤v then [v]else []
 | .tup ds=>(ds.map fun d=>match d with | .osl v _ _ 0 _=>if n≤v then [v]else []|_=>[]).flatten
 | _=>[]
inductive IR where
 | skip
 | ops (l:List IEnt)
 | draw (prs:List (Nat×Nat)) (l:List IEnt)
 | drawL (prs:List (Nat×Nat)) (l es:List IEnt)
 | seq (a b:IR)
 | cond (c:X) (a b:IR)
 | block (id:Nat) (live:List Nat) (a:IR)
 | loop (live:List Nat) (a:IR)
 | rangeF (rf:Nat) (live:List Nat) (x:X)
 | exit (id:Nat)
 | ret
 | bad
 | fz (S:List Nat) (a:IR)
 | fzO (S:List Nat) (a b:List IEnt)
 deriving Inhabited
inductive ResX where
 | tmp (t:Nat)
 | cell1 (t:Nat)
 | cellN (n t:Nat)
 deriving Inhabited
structure FnA where
 ntmps:Nat
 body:IR
 results:List ResX
 full:Bool:=false
 own:Nat:=0
 fz:Bool:=false
 deriving Inhabited
def resOf(s:St):ResX→Option D
 | .tmp t=>some (s.env.get t)
 | .cell1 t=>ld1O (s.env.get t) s.H
 | .cellN n t=>ldNO n (s.env.get t) s.H
def resAll(s:St):List ResX→Option (List D)
 | []=>some []
 | x::r=>match resOf s x,resAll s r with
  | some d,some l=>some (d::l)
  | _,_=>none
def results(fn:FnA)(s:St):Option D:=match resAll s fn.results with
 | some [d]=>some d
 | some ds=>some (.tup ds)
 | none=>none
def mkEnv(args:List D):Env:=args.zipIdx.map fun p=>(p.2,p.1)
def setParams:List Nat→List D→Env→Env
 | k::ks,d::ds,env=>setParams ks ds ((k,d)::env)
 | _,_,env=>env
def calleeOf(env:EnvF):IOp→Option (FuncId×List D)
 | .call f args=>some (f,args.map (ev env))
 | .callN f args=>some (f,args.map (ev env))
 | .callv f args=>match ev env f with
  | .fn (.func k) first cap=>some (k,first++args.map (ev env)++cap)
  | _=>none
 | _=>none
def isCall:IOp→Bool
 | .call _ _ | .callN _ _ | .callv _ _=>true
 | _=>false
def guardOf(env:EnvF):Option (Nat×Bool)→Option Bool
 | none=>some true
 | some (s,want)=>match env s with
  | .val (.bool b)=>some (b == want)
  | .val (.tuple _)=>some false
  | _=>none
def liftElt(n:Nat):D→D
 | .osl v g sz off len=>.osl (v+n) g sz off len
 | d=>d
def lift1(n:Nat):D→D
 | .osl v g sz off len=>.osl (v+n) g sz off len
 | .tup ds=>.tup (ds.map (liftElt n))
 | .agg ds=>.agg (ds.map (liftElt n))
 | d=>d
def closedOb:Ob→Bool
 | .row _ _ cs=>closedL cs
 | _=>false
def flatOb:Ob→Bool
 | .row _ _ cs=>flatL cs
 | _=>false
def okElt(p:D→Bool):D→Bool
 | .osl .. => true
 | d=>p d
def okResP(p:D→Bool):D→Bool
 | .osl .. => true
 | .tup ds=>ds.all (okElt p)
 | .agg ds=>ds.all (okElt p)
 | d=>p d
def okRes:D→Bool:=okResP closed
def okFlat:D→Bool:=okResP flat
def rowsOf(H:Heap)(v:Nat):Option (TypeId×Nat×List D):=match H[v]? with
 | some (.row t g cs)=>some (t,g,cs)
 | _=>none
def refsD(H:Heap):Nat→D→List Nat
 | 0,_=>[]
 | k+1,d=>if closed d then []else match d with
  | .agg cs | .tup cs | .fptr cs=>(cs.map (refsD H k)).flatten
  | .sl _ es=>(es.map fun e=>(e.map (refsD H k)).flatten).flatten
  | .fn _ a b=>(a.map (refsD H k)).flatten++(b.map (refsD H k)).flatten
  | .osl v _ _ _ _ | .ptr v _ _=>v::(match rowsOf H v with
   | some (_,_,cs)=>(cs.map (refsD H k)).flatten
   | none=>[])
  | .omap v | .yld v=>[v]
  | _=>[]
def leave(own:Nat)(n:Nat)(H:Heap)(d:D):D×Heap:=
 if H.length≤n then(d,H)else
 let K:=dedup (((match own with|0=>[]|1=>ownRefs n d|3=>((refsD H 40 d).filter (n≤·)).take 1|_=>(refsD H 40 d).filter (n≤·))++((H.take n).map (obRefs n)).flatten).filter (· < H.length))
 let ks:=keepOf n K
 (shed (rho ks) H 40 d,shedH ks H)
def freezeKs(H:Heap)(S:List Nat):Keep:=(List.range H.length).map fun v=>(v,!(S.contains v))
structure RoundA where
 params:List Nat
 a:IR
 b:IR
 deriving Inhabited
structure Tab where
 fn:FuncId→Option FnA
 round:Nat→Option RoundA:=fun _=>none
 sort:FuncId→Option Nat:=fun _=>none
 sortI:FuncId→Bool:=fun _=>false
def after(s:St)(dst:Option Nat)(args:List D)(r:D)(Hn:Heap):Option St:=
 if (if closedL args then okRes r&&Hn.all closedOb else okFlat r&&Hn.all flatOb)then
  some { s with env:=put s.env dst (lift1 s.H.length r),H:=s.H++Hn }else none
def frz(S:List Nat)(s:St):St:=
 let ks:=freezeKs s.H S
 { s with env:=s.env.map fun p=>(p.1,shed (rho ks) s.H 40 p.2),H:=shedH ks s.H }
end Go.AL
namespace Go.AL
open Go
theorem closedL_get{ds:List D}(h:closedL ds=true){i:Nat}{d:D}(hd:ds[i]? = some d):closed d=true:=by
 induction ds generalizing i with
 | nil=>simp at hd
 | cons x xs ih=>
  simp only[closedL,Bool.and_eq_true]at h
  cases i with
  | zero=>simp at hd;subst hd;exact h.1
  | succ i=>exact ih h.2 (by simpa using hd)
theorem closedLL_get{es:List (List D)}(h:closedLL es=true){i:Nat}{e:List D}(he:es[i]? = some e):closedL e=true:=by
 induction es generalizing i with
 | nil=>simp at he
 | cons x xs ih=>
  simp only[closedLL,Bool.and_eq_true]at h
  cases i with
  | zero=>simp at he;subst he;exact h.1
  | succ i=>exact ih h.2 (by simpa using he)
theorem Rep.closed{c c':Ctx}{w:World}(hF:∀ b,c.F b→c'.F b){u:Value}{d:D}(h:Rep c w u d)(hc:closed d=true):Rep c' w u d:=by
 induction h with
 | any v=>exact .any _
 | val v=>exact .val _
 | agg vs ds hl h1 h ih=>exact .agg vs _ hl h1 fun i v d hv hd=>ih i v d hv hd (closedL_get hc hd)
 | tup vs ds hl h ih=>exact .tup vs _ hl fun i v d hv hd=>ih i v d hv hd (closedL_get hc hd)
 | sl a len cap sz es g hlen hcap hmax hsz hnil hcc hr ih=>
  refine .sl a len cap sz _ g hlen hcap hmax hsz hnil ?_ fun i e j d he hd=>ih i e j d he hd (closedL_get (closedLL_get hc he) hd)
  intro i e j d he hd
  obtain⟨b,o,ha,hFb,hce,h1⟩:=hcc i e j d he hd
  exact⟨b,o,ha,hF b hFb,hce,h1⟩
 | emp=>exact .emp
 | osl=>cases hc
 | oslz=>cases hc
 | ptr=>cases hc
 | fptr b o cs g hFb hcc hr ih=>exact .fptr b o _ g (hF b hFb) hcc fun j d hd=>ih j d hd (closedL_get hc hd)
 | omap=>cases hc
 | fn f fs cs df dc hl1 hl2 h1 h2 ih1 ih2=>
  simp only[AL.closed,Bool.and_eq_true]at hc
  exact .fn f fs cs _ _ hl1 hl2 (fun i v d hv hd=>ih1 i v d hv hd (closedL_get hc.1 hd)) (fun i v d hv hd=>ih2 i v d hv hd (closedL_get hc.2 hd))
 | yld=>cases hc
theorem flatL_get{ds:List D}(h:flatL ds=true){i:Nat}{d:D}(hd:ds[i]? = some d):flat d=true:=by
 induction ds generalizing i with
 | nil=>simp at hd
 | cons x xs ih=>
  simp only[flatL,Bool.and_eq_true]at h
  cases i with
  | zero=>simp at hd;subst hd;exact h.1
  | succ i=>exact ih h.2 (by simpa using hd)
theorem Rep.flat{c c':Ctx}{w:World}{u:Value}{d:D}(h:Rep c w u d)(hc:flat d=true):Rep c' w u d:=by
 induction h with
 | any v=>exact .any _
 | val v=>exact .val _
 | agg vs ds hl h1 h ih=>exact .agg vs _ hl h1 fun i v d hv hd=>ih i v d hv hd (flatL_get hc hd)
 | tup vs ds hl h ih=>exact .tup vs _ hl fun i v d hv hd=>ih i v d hv hd (flatL_get hc hd)
 | sl a len cap sz es g hlen hcap hmax hsz hnil hcc hr ih=>
  simp only[AL.flat,List.isEmpty_iff]at hc
  subst hc
  exact .sl a len cap sz _ g hlen hcap hmax (by simp) hnil (by simp) (by simp)
 | emp=>exact .emp
 | osl=>cases hc
 | oslz=>cases hc
 | ptr=>cases hc
 | fptr=>cases hc
 | omap=>cases hc
 | fn=>cases hc
 | yld=>cases hc
theorem chunks_len(sz:Nat):∀ (n:Nat) (cs:List D),(chunks sz n cs).length=n
 | 0,_=>rfl
 | n+1,cs=>by simp[chunks,chunks_len sz n]
theorem chunks_get(sz:Nat):∀ (n:Nat) (cs:List D) (i:Nat) (e:List D),(chunks sz n cs)[i]? = some e→i<n∧e=(cs.drop (i*sz)).take sz
 | 0,_,i,e,h=>by simp[chunks]at h
 | n+1,cs,0,e,h=>by simp[chunks]at h;subst h;simp
 | n+1,cs,i+1,e,h=>by
  simp only[chunks,List.getElem?_cons_succ]at h
  obtain⟨h1,h2⟩:=chunks_get sz n _ i e h
  refine⟨by omega,?_⟩
  rw[h2,List.drop_drop]
  congr 2
  rw[Nat.add_mul];omega
theorem sl_of_cells{c:Ctx}{w:World}{b o sz len cap:Nat}{vs:List Value}{ds:List D}(hF:c.F b)(hc:Cells c w vs ds)(hl:ds.length=len*sz)(hcap:len≤cap)(hmax:cap≤maxLen)
  (hv:∀ (j:Nat) (v:Value),vs[j]? = some v→w.cell? ⟨b,o+j,none⟩=some v):Rep c w (.slice (some ⟨b,o,none⟩) len cap) (.sl sz (chunks sz len ds)):=by
 have hget:∀ (i:Nat) (e:List D) (j:Nat) (d:D),(chunks sz len ds)[i]? = some e→e[j]? = some d→ds[i*sz+j]? = some d∧j<sz:=by
  intro i e j d he hd
  obtain⟨_,rfl⟩:=chunks_get sz len ds i e he
  rw[List.getElem?_take]at hd
  split at hd
  ·rename_i hj;rw[List.getElem?_drop]at hd;exact⟨hd,hj⟩
  ·cases hd
 refine .sl _ len cap sz _ (fun i j=>vs.getD (i*sz+j) undef) (chunks_len _ _ _) hcap hmax ?_ (by simp) ?_ ?_
 ·intro e he
  obtain⟨i,hi⟩:=List.mem_iff_getElem?.1 he
  obtain⟨h1,rfl⟩:=chunks_get sz len ds i e hi
  simp only[List.length_take,List.length_drop,hl]
  have:(i+1)*sz≤len*sz:=Nat.mul_le_mul_right _ h1
  rw[Nat.add_mul]at this
  omega
 ·intro i e j d he hd
  obtain⟨h1,_⟩:=hget i e j d he hd
  obtain⟨v,hv1,hv2,_⟩:=hc.get h1
  refine⟨b,o,rfl,hF,?_,?_⟩
  ·simp only[List.getD,hv1,Option.getD_some];exact hv _ _ hv1
  ·simp only[List.getD,hv1,Option.getD_some];exact hv2
 ·intro i e j d he hd
  obtain⟨h1,_⟩:=hget i e j d he hd
  obtain⟨v,hv1,_,hv3⟩:=hc.get h1
  simp only[List.getD,hv1,Option.getD_some];exact hv3
theorem Cells.map{c c':Ctx}{w:World}{f:D→D}(hr:∀ v d,Rep c w v d→Rep c' w v (f d)){vs:List Value}{cs:List D}(h:Cells c w vs cs):Cells c' w vs (cs.map f):=
 ⟨by simpa using h.len,h.one,fun i v d hv hd=>by
  simp only[List.getElem?_map,Option.map_eq_some_iff]at hd
  obtain⟨d0,hd0,rfl⟩:=hd
  exact hr _ _ (h.rep i v d0 hv hd0)⟩
def Ctx.shed(c:Ctx)(ks:Keep)(H:Heap):Ctx where
 ι:=fun i g=>match ks[i]? with
  | some p=>c.ι p.1 g
  | none=>none
 F:=fun b=>c.F b∨∃ v L,Lies c H v L∧rho ks v=none∧L.virt=false∧L.b=b
 RT:=c.RT
theorem rho_some{ks:Keep}{v i:Nat}(h:rho ks v=some i):ks[i]? = some (v,true):=by
 unfold rho at h
 rw[List.findIdx?_eq_some_iff_getElem]at h
 obtain⟨hi,hp,_⟩:=h
 simp only[Bool.and_eq_true,beq_iff_eq]at hp
 rw[List.getElem?_eq_getElem hi]
 congr 1
 exact Prod.ext hp.2 hp.1
theorem rho_none{ks:Keep}{v:Nat}(h:rho ks v=none)(i:Nat):ks[i]?≠some (v,true):=by
 intro hi
 unfold rho at h
 rw[List.findIdx?_eq_none_iff]at h
 have:=h _ (List.mem_of_getElem? hi)
 simp at this
section
variable{G:GT}{c:Ctx}{H:Heap}{w:World}{ks:Keep}
theorem ι_shed{v i g:Nat}(h:rho ks v=some i):(c.shed ks H).ι i g=c.ι v g:=by simp[Ctx.shed,rho_some h]
theorem F_shed{b:Nat}(h:c.F b):(c.shed ks H).F b:=Or.inl h
theorem F_frozen{v:Nat}{L:Loc}(h1:Lies c H v L)(h2:rho ks v=none)(h3:L.virt=false):(c.shed ks H).F L.b:=Or.inr ⟨v,L,h1,h2,h3,rfl⟩
theorem rep_shed(h:HOK G c H w):∀ (k:Nat) {u:Value} {d:D},Rep c w u d→Rep (c.shed ks H) w u (shed (rho ks) H k d)
 | 0,u,d,hr=>by
  unfold AL.shed
  split
  ·rename_i hc;exact hr.closed (fun b hb=>F_shed hb) hc
  ·exact .any _
 | k+1,u,d,hr=>by
  have ih:=fun{u:Value} {d:D} (hr:Rep c w u d)=>rep_shed h k hr
  unfold AL.shed
  split
  ·rename_i hc;exact hr.closed (fun b hb=>F_shed hb) hc
  ·cases hr with
   | any v=>exact .any _
   | val v=>exact .val _
   | agg vs ds hl h1 h2=>
     refine .agg vs _ (by simpa using hl) h1 fun i v d hv hd=>?_
     simp only[List.getElem?_map,Option.map_eq_some_iff]at hd
     obtain⟨d0,hd0,rfl⟩:=hd
     exact ih (h2 i v d0 hv hd0)
   | tup vs ds hl h2=>
     refine .tup vs _ (by simpa using hl) fun i v d hv hd=>?_
     simp only[List.getElem?_map,Option.map_eq_some_iff]at hd
     obtain⟨d0,hd0,rfl⟩:=hd
     exact ih (h2 i v d0 hv hd0)
   | sl a len cap sz es g hlen hcap hmax hsz hnil hcc hr=>
    refine .sl a len cap sz _ g (by simpa using hlen) hcap hmax ?_ hnil ?_ ?_
    ·intro e he
     simp only[List.mem_map]at he
     obtain⟨e0,he0,rfl⟩:=he
     simpa using hsz e0 he0
    ·intro i e j d he hd
     simp only[List.getElem?_map,Option.map_eq_some_iff]at he
     obtain⟨e0,he0,rfl⟩:=he
     simp only[List.getElem?_map,Option.map_eq_some_iff]at hd
     obtain⟨d0,hd0,rfl⟩:=hd
     obtain⟨b,o,ha,hFb,hce,h1⟩:=hcc i e0 j d0 he0 hd0
     exact⟨b,o,ha,F_shed hFb,hce,h1⟩
    ·intro i e j d he hd
     simp only[List.getElem?_map,Option.map_eq_some_iff]at he
     obtain⟨e0,he0,rfl⟩:=he
     simp only[List.getElem?_map,Option.map_eq_some_iff]at hd
     obtain⟨d0,hd0,rfl⟩:=hd
     exact ih (hr i e0 j d0 he0 hd0)
   | emp=>exact .emp
   | osl v g sz off len cap L hι hv hcap hmax htop=>
    dsimp only
    split
    ·rename_i v' hv'
     exact .osl v' g sz off len cap L (by rw[ι_shed hv'];exact hι) hv hcap hmax htop
    ·rename_i hnone
     split
     ·rename_i t cs hrow
      split
      ·rename_i hfit
       have hrw:=rowAt_some hrow
       obtain⟨arr,h1,h2,h3,h4⟩:=row_at h hrw hι hv
       have hcs:=(((h4.drop (off*sz)).map (fun _ _ hr=>ih hr)).take (len*sz))
       have hlen:((cs.drop (off*sz)).map (AL.shed (rho ks) H k)).length=(cs.length-off*sz):=by simp
       have hch:chunks sz len ((cs.drop (off*sz)).map (AL.shed (rho ks) H k))=chunks sz len (((cs.drop (off*sz)).map (AL.shed (rho ks) H k)).take (len*sz)):=by
        have key:∀ (n:Nat) (xs:List D),chunks sz n xs=chunks sz n (xs.take (n*sz)):=by
         intro n
         induction n with
         | zero=>intro xs;rfl
         | succ n ih=>
          intro xs
          simp only[chunks]
          rw[List.take_take,Nat.min_eq_left (by rw[Nat.add_mul];omega),ih (xs.drop sz),List.drop_take,show(n+1)*sz-sz=n*sz by rw[Nat.add_mul];omega]
        exact key _ _
       rw[hch]
       refine sl_of_cells (F_frozen ⟨_,hrw,rfl,hι⟩ hnone hv) hcs ?_ hcap hmax fun j x hx=>?_
       ·rw[List.length_take,hlen]
        rw[Nat.add_mul]at hfit
        omega
       ·rw[List.getElem?_take]at hx
        split at hx
        ·rw[List.getElem?_drop,List.getElem?_take]at hx
         split at hx
         ·rw[List.getElem?_drop]at hx
          simp[World.cell?,h1]
          rw[Nat.add_assoc]
          simpa using hx
         ·cases hx
        ·cases hx
      ·exact .any _
     ·exact .any _
   | oslz v g sz off L hι a=>
    dsimp only
    split
    ·rename_i v' hv'
     exact .oslz v' g sz off L (by rw[ι_shed hv'];exact hι) a
    ·split
     ·split
      ·exact .sl a 0 0 sz _ (fun _ _=>undef) rfl (Nat.le_refl _) (by unfold maxLen;omega) (by simp[chunks]) (fun _=>rfl) (by simp[chunks]) (by simp[chunks])
      ·exact .any _
     ·exact .any _
   | ptr v g off L hι hv=>
    dsimp only
    split
    ·rename_i v' hv'
     exact .ptr v' g off L (by rw[ι_shed hv'];exact hι) hv
    ·rename_i hnone
     split
     ·rename_i t cs hrow
      have hrw:=rowAt_some hrow
      obtain⟨arr,h1,h2,h3,h4⟩:=row_at h hrw hι hv
      refine fptr_of_cells (F_frozen ⟨_,hrw,rfl,hι⟩ hnone hv) ⟨_,(h4.drop off).map (fun _ _ hr=>ih hr),fun j x hx=>?_⟩
      rw[List.getElem?_drop,List.getElem?_take]at hx
      split at hx
      ·rw[List.getElem?_drop]at hx
       simp[World.cell?,h1]
       rw[Nat.add_assoc]
       simpa using hx
      ·cases hx
     ·exact .any _
   | fptr b o cs g hFb hcc hr=>
    refine .fptr b o _ g (F_shed hFb) ?_ ?_
    ·intro j d hd
     simp only[List.getElem?_map,Option.map_eq_some_iff]at hd
     obtain⟨d0,hd0,rfl⟩:=hd
     exact hcc j d0 hd0
    ·intro j d hd
     simp only[List.getElem?_map,Option.map_eq_some_iff]at hd
     obtain⟨d0,hd0,rfl⟩:=hd
     exact ih (hr j d0 hd0)
   | omap v L hι hv=>
    dsimp only
    split
    ·rename_i v' hv';exact .omap v' L (by rw[ι_shed hv'];exact hι) hv
    ·exact .any _
   | fn f fs cs df dc hl1 hl2 h1 h2=>
    refine .fn f fs cs _ _ (by simpa using hl1) (by simpa using hl2) ?_ ?_
    ·intro i v d hv hd
     simp only[List.getElem?_map,Option.map_eq_some_iff]at hd
     obtain⟨d0,hd0,rfl⟩:=hd
     exact ih (h1 i v d0 hv hd0)
    ·intro i v d hv hd
     simp only[List.getElem?_map,Option.map_eq_some_iff]at hd
     obtain⟨d0,hd0,rfl⟩:=hd
     exact ih (h2 i v d0 hv hd0)
   | yld v L hι hv=>
    dsimp only
    split
    ·rename_i v' hv';exact .yld v' L (by rw[ι_shed hv'];exact hι) hv
    ·exact .any _
end
end Go.AL
namespace Go.AL
open Go
section
variable{G:GT}{c:Ctx}{H:Heap}{w:World}{ks:Keep}
def KeepOK(ks:Keep):Prop:=∀ (i j:Nat) (p q:Nat×Bool),ks[i]? = some p→ks[j]? = some q→p.1=q.1→i=j
theorem shedH_get{i:Nat}{o:Ob}(h:(shedH ks H)[i]? = some o)(ha:o≠.dead):∃ v o0,ks[i]? = some (v,true)∧H[v]? = some o0∧o=shedOb (rho ks) H o0:=by
 unfold shedH at h
 simp only[List.getElem?_map,Option.map_eq_some_iff]at h
 obtain⟨p,hp,he⟩:=h
 split at he
 ·rename_i hb
  split at he
  ·rename_i o0 ho0
   exact⟨p.1,o0,by rw[hp,← hb],ho0,he.symm⟩
  ·exact absurd he.symm ha
 ·exact absurd he.symm ha
theorem shedOb_alive{o:Ob}(h:(shedOb (rho ks) H o).alive=true):o.alive=true∧(shedOb (rho ks) H o).gen=o.gen:=by
 cases o<;>simp_all [shedOb,Ob.alive,Ob.gen]
theorem rho_of{v i:Nat}(hk:KeepOK ks)(h:ks[i]? = some (v,true)):rho ks v=some i:=by
 cases hr:rho ks v with
 | none=>exact absurd h (rho_none hr i)
 | some j=>
  have:=rho_some hr
  rw[hk i j _ _ h this rfl]
theorem lies_shed{i:Nat}{L:Loc}(h:Lies (c.shed ks H) (shedH ks H) i L):∃ v,ks[i]? = some (v,true)∧Lies c H v L:=by
 obtain⟨o,ho,ha,hι⟩:=h
 obtain⟨v,o0,h1,h2,rfl⟩:=shedH_get ho (by intro e;subst e;cases ha)
 obtain⟨a1,a2⟩:=shedOb_alive ha
 refine⟨v,h1,o0,h2,a1,?_⟩
 rw[a2]at hι
 simpa[Ctx.shed,h1]using hι
theorem owned_shed{b:Nat}(h:Owned (c.shed ks H) (shedH ks H) b):Owned c H b:=by
 obtain⟨i,L,hl,hv,e⟩:=h
 obtain⟨v,_,h2⟩:=lies_shed hl
 exact⟨v,L,h2,hv,e⟩
theorem shed_ok(h:HOK G c H w)(hk:KeepOK ks):HOK G (c.shed ks H) (shedH ks H) w where
 inj i j L L' h1 h2 h3 h4 he:=by
  obtain⟨v,k1,l1⟩:=lies_shed h1
  obtain⟨v',k2,l2⟩:=lies_shed h2
  have:=h.inj v v' L L' l1 l2 h3 h4 he
  subst this
  exact hk i j _ _ k1 k2 rfl
 lt b hb:=h.lt b (owned_shed hb)
 nF b hb hF:=by
  obtain⟨i,L,hl,hv,e⟩:=hb
  obtain⟨v,k1,l1⟩:=lies_shed hl
  rcases hF with hF|⟨v',L',l2,hn,hv',e'⟩
  ·exact h.nF b ⟨v,L,l1,hv,e⟩ hF
  ·have:=h.inj v v' L L' l1 l2 hv hv' (e.trans e'.symm)
   subst this
   exact rho_none hn i k1
 Flt b hb:=by
  rcases hb with hb|⟨v,L,l,_,hv,e⟩
  ·exact h.Flt b hb
  ·exact h.lt b ⟨v,L,l,hv,e⟩
 out i k hi:=by
  simp only[shedH,List.length_map]at hi
  simp[Ctx.shed,List.getElem?_eq_none hi]
 fut i o k ho hk':=by
  have hne:o≠.dead:=by
   rintro rfl
   rcases hk' with hk'|⟨hk',_⟩<;>cases hk'
  obtain⟨v,o0,h1,h2,rfl⟩:=shedH_get ho hne
  rcases hk' with hk'|⟨ha,hg⟩
  ·cases o0<;>simp[shedOb]at hk'
  ·obtain⟨a1,a2⟩:=shedOb_alive ha
   have:=h.fut v o0 k h2 (.inr ⟨a1,by rw[← a2];exact hg⟩)
   simpa[Ctx.shed,h1]using this
 ob i o ho:=by
  by_cases hne:o = .dead
  ·subst hne;simp[ObOK]
  ·obtain⟨v,o0,h1,h2,rfl⟩:=shedH_get ho hne
   have h0:=h.ob v o0 h2
   have hι:(c.shed ks H).ι i o0.gen=c.ι v o0.gen:=by simp[Ctx.shed,h1]
   have hr:∀ u d,Rep c w u d→Rep (c.shed ks H) w u (shed (rho ks) H 40 d):=fun u d hd=>rep_shed h 40 hd
   cases o0 with
   | dead=>simp[shedOb,ObOK]
   | hole=>simp[shedOb,ObOK]
   | row t g cs=>
    simp only[shedOb,Ob.gen]at hι ⊢
    rw[hι]
    simp only[Ob.gen]at h0
    cases hL:c.ι v g with
    | none=>rw[hL]at h0;simp[ObOK]at h0
    | some L=>
     rw[hL]at h0
     simp only[ObOK]at h0 ⊢
     split
     ·rename_i hv;simp only[hv,if_true]at h0;simp[h0]
     ·rename_i hv
      simp only[hv]at h0
      obtain⟨arr,a1,a2,a3,a4⟩:=h0
      refine⟨arr,a1,a2,by simpa using a3,fun j d hd=>?_⟩
      simp only[List.getElem?_map,Option.map_eq_some_iff]at hd
      obtain⟨d0,hd0,rfl⟩:=hd
      obtain⟨x,hx1,hx2,hx3⟩:=a4 j d0 hd0
      exact⟨x,hx1,hx2,hr _ _ hx3⟩
   | map kk es=>
    simp only[shedOb,Ob.gen]at hι ⊢
    rw[hι]
    simp only[Ob.gen]at h0
    cases hL:c.ι v 0 with
    | none=>rw[hL]at h0;simp[ObOK]at h0
    | some L=>
     rw[hL]at h0
     simp only[ObOK]at h0 ⊢
     obtain⟨hv,hkk,arr,clock,a1,a2,a3,a4⟩:=h0
     refine⟨hv,fun x hx=>?_,arr,clock,a1,by simpa using a2,fun j e x he hx=>?_,by simpa using a4⟩
     ·obtain⟨y,hy,rfl⟩:=List.mem_map.1 hx
      exact hkk y hy
     ·simp only[List.getElem?_map,Option.map_eq_some_iff]at hx
      obtain⟨y,hy,rfl⟩:=hx
      obtain⟨p,q,r⟩:=a3 j e y he hy
      exact⟨p,hr _ _ q,r⟩
   | rcd rf env st=>
    simp only[shedOb,Ob.gen]at hι ⊢
    rw[hι]
    simp only[Ob.gen]at h0
    cases hL:c.ι v 0 with
    | none=>rw[hL]at h0;simp[ObOK]at h0
    | some L=>
     rw[hL]at h0
     simp only[ObOK]at h0 ⊢
     obtain⟨hv,r,a1,a2,a3,a4⟩:=h0
     refine⟨hv,r,a1,fun k=>?_,a3,a4⟩
     have key:∀ (env:Env) (k:Nat),(Env.get (env.map fun x=>(x.1,shed (rho ks) H 40 x.2)) k)=shed (rho ks) H 40 (env.get k):=by
      intro env k
      induction env with
      | nil=>rfl
      | cons p r ih=>
       obtain⟨j,d⟩:=p
       simp only[List.map_cons,Env.get_cons]
       split
       ·rfl
       ·exact ih
     rw[key]
     exact hr _ _ (a2 k)
   | siter s p=>
    simp only[shedOb,Ob.gen]at hι ⊢
    rw[hι]
    simp only[Ob.gen]at h0
    cases hL:c.ι v 0 with
    | none=>rw[hL]at h0;simp[ObOK]at h0
    | some L=>
     rw[hL]at h0
     simpa only[ObOK]using h0
   | miter m since seen=>
    simp only[shedOb,Ob.gen]at hι ⊢
    rw[hι]
    simp only[Ob.gen]at h0
    cases hL:c.ι v 0 with
    | none=>rw[hL]at h0;simp[ObOK]at h0
    | some L=>
     rw[hL]at h0
     simp only[ObOK]at h0 ⊢
     obtain⟨a1,a2,bm,a3,a4⟩:=h0
     exact⟨a1,a2,bm,hr _ _ a3,a4⟩
   | dfr=>
    simp only[shedOb,Ob.gen]at hι ⊢
    rw[hι]
    simp only[Ob.gen]at h0
    cases hL:c.ι v 0 with
    | none=>rw[hL]at h0;simp[ObOK]at h0
    | some L=>
     rw[hL]at h0
     simpa only[ObOK]using h0
 gl g cs hg:=by
  obtain⟨h1,h2⟩:=h.gl g cs hg
  exact⟨h1,h2.closed (fun b hb=>F_shed hb) (by simpa[AL.closed]using h1)⟩
 rt:=h.rt
theorem shed_step(h:HOK G c H w){n:Nat}(hn:∀ v,v<n→(ks[v]?).map (·.1)=some v):Step n c H w (c.shed ks H) (shedH ks H) w where
 os:=⟨rfl,Nat.le_refl _⟩
 tape:=rfl
 output:=rfl
 size:=Nat.le_refl _
 RT:=rfl
 Fm b hb:=F_shed hb
 Fn b hb:=by
  rcases hb with hb|⟨v,L,l,_,hv,e⟩
  ·exact .inl hb
  ·exact .inr (.inr ⟨v,L,l,hv,e⟩)
 kept _ _ _:=rfl
 old v k L hv hι:=by
  have:=hn v hv
  simp only[Option.map_eq_some_iff]at this
  obtain⟨p,hp,e⟩:=this
  simp only[Ctx.shed,hp,e]
  exact hι
 own b hb:=.inr (owned_shed hb)
theorem get_map_shed(env:Env)(k:Nat):(Env.get (env.map fun x=>(x.1,shed (rho ks) H 40 x.2)) k)=shed (rho ks) H 40 (env.get k):=by
 induction env with
 | nil=>rfl
 | cons p r ih=>
  obtain⟨j,d⟩:=p
  simp only[List.map_cons,Env.get_cons]
  split
  ·rfl
  ·exact ih
theorem env_shed(h:HOK G c H w){env:Env}{a:Act}(he:RepEnv c w env.get a):RepEnv (c.shed ks H) w (Env.get (env.map fun x=>(x.1,shed (rho ks) H 40 x.2))) a:=fun k=>by
 rw[get_map_shed]
 exact rep_shed h 40 (he k)
theorem forget_get(live:List Nat)(env:Env)(k:Nat):(forget live env).get k = .any∨(forget live env).get k=env.get k:=by
 unfold forget
 induction live with
 | nil=>exact .inl rfl
 | cons x r ih=>
  simp only[List.map_cons,Env.get_cons]
  split
  ·rename_i e;subst e;exact .inr rfl
  ·exact ih
theorem env_forget{env:Env}{a:Act}(he:RepEnv c w env.get a)(live:List Nat):RepEnv c w (forget live env).get a:=fun k=>by
 rcases forget_get live env k with h|h<;>rw[h]
 ·exact .any _
 ·exact he k
theorem mem_dedup{x:Nat}:∀ {l:List Nat},x∈dedup l→x∈l
 | [],h=>h
 | y::r,h=>by
  unfold dedup at h
  split at h
  ·exact List.mem_cons_of_mem _ (mem_dedup h)
  ·rcases List.mem_cons.1 h with rfl|h
   ·exact List.mem_cons_self
   ·exact List.mem_cons_of_mem _ (mem_dedup h)
theorem dedup_mem{x:Nat}:∀ {l:List Nat},x∈l→x∈dedup l
 | y::r,h=>by
  unfold dedup
  split
  ·rename_i hy
   rcases List.mem_cons.1 h with rfl|h
   ·exact dedup_mem hy
   ·exact dedup_mem h
  ·rcases List.mem_cons.1 h with rfl|h
   ·exact List.mem_cons_self
   ·exact List.mem_cons_of_mem _ (dedup_mem h)
theorem nodup_dedup:∀ (l:List Nat),(dedup l).Nodup
 | []=>List.nodup_nil
 | y::r=>by
  unfold dedup
  split
  ·exact nodup_dedup r
  ·rename_i hn
   exact List.nodup_cons.2 ⟨fun h=>hn (mem_dedup h),nodup_dedup r⟩
theorem keepOK_of_nodup(h:(ks.map (·.1)).Nodup):KeepOK ks:=by
 intro i j p q hp hq e
 have hi:(ks.map (·.1))[i]? = some p.1:=by simp[hp]
 have hj:(ks.map (·.1))[j]? = some q.1:=by simp[hq]
 have hil:=(List.getElem?_eq_some_iff.1 hi).1
 have hjl:=(List.getElem?_eq_some_iff.1 hj).1
 rw[List.getElem?_eq_getElem hil]at hi
 rw[List.getElem?_eq_getElem hjl]at hj
 simp only[Option.some.injEq]at hi hj
 exact(List.getElem_inj h).1 (by rw[hi,hj,e])
theorem keepOf_ok{n:Nat}{K:List Nat}(hK:∀ v∈K,n≤v)(hd:K.Nodup):KeepOK (keepOf n K):=by
 apply keepOK_of_nodup
 unfold keepOf
 simp only[List.map_append,List.map_map,Function.comp_def,List.map_id']
 rw[List.nodup_append]
 refine⟨List.nodup_range,hd,fun a ha b hb e=>?_⟩
 subst e
 have:=hK a hb
 simp at ha
 omega
theorem keepOf_low{n:Nat}{K:List Nat}(v:Nat)(hv:v<n):((keepOf n K)[v]?).map (·.1)=some v:=by
 unfold keepOf
 rw[List.getElem?_append_left (by simpa using hv)]
 simp[hv]
theorem freezeKs_ok{S:List Nat}:KeepOK (freezeKs H S):=by
 apply keepOK_of_nodup
 unfold freezeKs
 simp only[List.map_map,Function.comp_def,List.map_id']
 exact List.nodup_range
theorem freezeKs_low{S:List Nat}(v:Nat)(hv:v<H.length):((freezeKs H S)[v]?).map (·.1)=some v:=by
 unfold freezeKs
 simp[hv]
theorem freezeKs_len{S:List Nat}:(shedH (freezeKs H S) H).length=H.length:=by simp[shedH,freezeKs]
end
end Go.AL
namespace Go.AL
open Go
def constNil:Operand→Bool
 | .const (.slice none 0 0)=>true
 | _=>false
def sliceT(P:Program)(t:TypeId):Bool:=match P.underlying t with
 | some (.slice _)=>true
 | _=>false
def compileSp(P:Program)(G:GT)(o:Oper):Option IOp:=
 match o.op with
 | .binOp .eql t x y _=>if sliceT P t=true∧constNil y=true then(cX G x).map (.nilS false)else none
 | .binOp .neq t x y _=>if sliceT P t=true∧constNil y=true then(cX G x).map (.nilS true)else none
 | .range t x=>match P.underlying t,cX G x with
  | some .string,some a=>some (.rangeS a)
  | some (.map _ _),some a=>some (.rangeM a)
  | _,_=>none
 | .next x true=>(cX G x).map .nextS
 | .next x false=>(cX G x).map .nextM
 | .entry x=>(cX G x).map .entry
 | .call c=>match c.callee,c.argTypes.toList,c.args.toList with
  | .builtin .cap,[t],[x]=>if sliceT P t then(cX G x).map .capE else none
  | .builtin .clear,[t],[x]=>match P.underlying t with
   | some (.slice e)=>match zeroT P e,P.info? e,cX G x with
    | some z,some i,some a=>if z.length=i.size∧0<i.size then some (.clr i.size z a)else none
    | _,_,_=>none
   | _=>none
  | .builtin .append,[t,u],[x,y]=>match P.underlying t,P.underlying u with
   | some (.slice e),some (.int .i64)=>match zeroT P e,P.info? e,cX G x,cX G y with
    | some z,some i,some a,some b=>if z.length=i.size∧0<i.size then some (.appZ e i.size i.bytes z a b)else none
    | _,_,_,_=>none
   | _,_=>none
  | _,_,_=>none
 | _=>none
def nilSO(neg:Bool):D→Option D
 | .emp=>some (.b !neg)
 | .sl _ (_::_)=>some (.b neg)
 | .osl _ _ _ _ (_+1)=>some (.b neg)
 | _=>none
def appZO(t sz bytes:Nat)(z:List D)(x n:D)(vn:Nat):R:=
 match x,n with
 | .emp,.val (.int .i64 m)=>if 0<m∧leK (m*bytes) 140737488355328∧leK m 9223372036854775807 then some (.osl vn 0 sz 0 m.toNat,.new (.row t 0 (List.replicate m.toNat z).flatten))else none
 | _,_=>none
def clrO(sz:Nat)(z:List D)(x:D)(H:Heap):R:=
 match x with
 | .emp=>some (.any,.no)
 | .osl v g sz' off len=>match rowAt H v g with
  | some (t,cs)=>if sz'=sz∧(off+len)*sz≤cs.length then some (.any,.obj v (.row t g (cs.take (off*sz)++(List.replicate len z).flatten++cs.drop ((off+len)*sz))))else none
  | none=>none
 | _=>none
def nextSO(x:D)(H:Heap):R:=
 match x with
 | .ptr v 0 0=>match H[v]? with
  | some (.siter s p)=>if p<s.size then some (.tup [.b true,.i p,.val (.int .i32 (Utf8.decode s p).1)],.obj v (.siter s (p+(Utf8.decode s p).2)))else some (.tup [.b false],.no)
  | _=>none
 | _=>none
def rangeMO(x:D)(H:Heap)(vn:Nat):R:=
 match x with
 | .omap m=>match mapAt H m with
  | some (_,es)=>some (.ptr vn 0 0,.new (.miter (.omap m) es.length []))
  | none=>none
 | _=>none
def entryO(x:D)(H:Heap):Option D:=
 match x with
 | .ptr v 0 0=>match H[v]? with
  | some (.miter (.omap m) since seen)=>match mapAt H m,seen.getLast? with
   | some (_,es),some i=>match es[i]? with
    | some (k,d)=>if es.length=since then some (.tup [.val k,d])else none
    | none=>none
   | _,_=>none
  | _=>none
 | _=>none
def sopO(env:EnvF)(H:Heap)(n:Nat):IOp→R
 | .nilS neg x=>lift (nilSO neg (ev env x))
 | .capE x=>match ev env x with
  | .emp=>some (.i 0,.no)
  | _=>none
 | .appZ t sz bytes z x m=>appZO t sz bytes z (ev env x) (ev env m) n
 | .clr sz z x=>clrO sz z (ev env x) H
 | .rangeS x=>match ev env x with
  | .val (.string s)=>some (.ptr n 0 0,.new (.siter s 0))
  | _=>none
 | .nextS x=>nextSO (ev env x) H
 | .rangeM x=>rangeMO (ev env x) H n
 | .entry x=>lift (entryO (ev env x) H)
 | _=>none
def special:IOp→Bool
 | .nilS .. | .capE .. | .appZ .. | .clr .. | .rangeS .. | .nextS .. | .rangeM .. | .nextM .. | .entry .. => true
 | _=>false
theorem special_aop{op:IOp}(h:special op=true)(f:EnvF)(H:Heap)(n:Nat):aopO f H n op=none:=by
 cases op<;>first|(cases h;done)|rfl
theorem special_callee{op:IOp}(h:special op=true)(f:EnvF):calleeOf f op=none:=by
 cases op<;>first|(cases h;done)|rfl
theorem compileSp_special{P:Program}{G:GT}{o:Oper}{io:IOp}(h:compileSp P G o=some io):special io=true:=by
 unfold compileSp at h
 repeat' split at h
 all_goals first|(cases h;done)|(simp only[Option.map_eq_some_iff]at h;obtain⟨_,_,rfl⟩:=h;rfl)|(cases h;rfl)
section
variable{P:Program}{G:GT}{c:Ctx}{H:Heap}{w:World}{env:EnvF}{a:Act}
abbrev KO(H:Heap)(al:Al)(d:D)(δ:Dl):Kont:=fun d' H'=>d'=d∧H'=δ.app H al
theorem new_obj(h:HOK G c H w){al:Al}(hal:AlOK H al)(o:Obj)(ob:Ob)(hg:ob.gen=0)(ha:ob.alive=true)
  (hob:(∀ u d,Rep c w u d→Rep (c.set al.1 0 ⟨w.heap.size,0,0,false⟩) (w.alloc o) u d)→(w.alloc o).heap[w.heap.size]? = some o→ObOK (c.set al.1 0 ⟨w.heap.size,0,0,false⟩) (w.alloc o) (some ⟨w.heap.size,0,0,false⟩) ob) :
  HOK G (c.set al.1 0 ⟨w.heap.size,0,0,false⟩) (al.2 ob) (w.alloc o)∧Rep (c.set al.1 0 ⟨w.heap.size,0,0,false⟩) (w.alloc o) (.pointer (some ⟨w.heap.size,0,none⟩)) (.ptr al.1 0 0) ∧
   Step H.length c H w (c.set al.1 0 ⟨w.heap.size,0,0,false⟩) (al.2 ob) (w.alloc o):=by
 have hL:(⟨w.heap.size,0,0,false⟩:Loc).virt=false→w.heap.size≤(⟨w.heap.size,0,0,false⟩:Loc).b∧(⟨w.heap.size,0,0,false⟩:Loc).b<(w.alloc o).heap.size:=fun _=>⟨Nat.le_refl _,by simp⟩
 have ht:=(hal ob).takes
 have hs:=takes_step h ht (Grew.alloc w o) ⟨w.heap.size,0,0,false⟩ hL
 rw[hg]at hs
 have h1:=takes_ok h ht (Grew.alloc w o) ⟨w.heap.size,0,0,false⟩ hL ha (by rw[hg];exact hob (fun u d hd=>hd.step0 h.toHeapOK hs) (heap_alloc_new w o))
 rw[hg]at h1
 exact⟨h1,.ptr (c:=c.set al.1 0 ⟨w.heap.size,0,0,false⟩) al.1 0 0 ⟨w.heap.size,0,0,false⟩ (Ctx.set_same _ _ _ _) rfl,hs⟩
theorem ok_nilS(h:HOK G c H w){t:TypeId}(ht:sliceT P t=true){neg:Bool}{x d:D}{u:Value}(hr:Rep c w u x)(ho:nilSO neg x=some d)(xo yo:Operand) :
  ∃ r,(do eqGuard (if neg then .neq else .eql) t xo yo u (.slice none 0 0);binOp (if neg then .neq else .eql) t u (.slice none 0 0)).run P w = .ok r w∧Rep c w r d:=by
 have htt:∃ e,P.underlying t=some (.slice e):=by
  unfold sliceT at ht
  split at ht
  ·exact⟨_,by assumption⟩
  ·cases ht
 obtain⟨e,hu⟩:=htt
 have heq:∀ (n:Nat) (ad:Option Addr) (len cap:Nat),(Op.equalIn (n+1) t (.slice ad len cap) (.slice none 0 0)).run P w = .ok ad.isNone w:=by
  intro n ad len cap
  cases ad<;>simp[Op.equalIn,run_underlying hu]
 have hop:∀ ad len cap,Op.equal t (.slice ad len cap) (.slice none 0 0)=Op.equalIn (9999+1) t (.slice ad len cap) (.slice none 0 0):=fun _ _ _=>rfl
 have key:∀ (ad:Option Addr) (len cap:Nat),u = .slice ad len cap→(do eqGuard (if neg then .neq else .eql) t xo yo u (.slice none 0 0);binOp (if neg then .neq else .eql) t u (.slice none 0 0)).run P w = .ok (.bool (if neg then !ad.isNone else ad.isNone)) w:=by
  rintro ad len cap rfl
  have h1:=heq 9999 ad len cap
  cases neg<;>simp only[eqGuard,binOp,hop,Bool.false_eq_true,if_false,if_true,Sem.run_bind,Bool.not_true,Sem.run_pure,Result.andThen_ok,h1]
 unfold nilSO at ho
 split at ho
 ·cases ho
  cases hr
  exact⟨_,key none 0 0 rfl,by cases neg<;>exact .val _⟩
 ·cases ho
  cases hr with
  | sl ad len cap sz es g hlen hcap hmax hsz hnil hc hrr=>
   have:ad≠none:=fun e=>by have:=hnil e;simp at hlen;omega
   obtain⟨q,rfl⟩:=Option.ne_none_iff_exists'.1 this
   exact⟨_,key _ _ _ rfl,by cases neg<;>exact .val _⟩
 ·cases ho
  cases hr with
  | osl _ _ _ _ _ cap L hι hv hcap hmax htop=>exact⟨_,key _ _ _ rfl,by cases neg<;>exact .val _⟩
 ·cases ho
theorem ok_cells(h:HOK G c H w){v g o:Nat}{t':TypeId}{cs xs:List D}(hv:H[v]? = some (.row t' g cs)){L:Loc}(hι:c.ι v g=some L)(hvirt:L.virt=false){vs:List Value}(hx:Cells c w vs xs)
  (hfit:o+xs.length≤cs.length):∃ w',(storeCells ⟨L.b,L.base+o,none⟩ vs).run P w = .ok () w'∧HOK G c (H.set v (.row t' g (cs.take o++xs++cs.drop (o+xs.length)))) w'∧Step H.length c H w c (H.set v (.row t' g (cs.take o++xs++cs.drop (o+xs.length)))) w':=by
 obtain⟨arr,h1,h2,h3,h4⟩:=row_at h hv hι hvirt
 have hxl:vs.length=xs.length:=hx.len
 have hst:=run_storeCells_at P L.b (L.base+o) t' vs 0 arr w h1 (by simp;omega) hx.one
 simp only[Nat.add_zero]at hst
 have hw:=write_row h hv hι hvirt h1 (arr.toList.take (L.base+o)++vs++arr.toList.drop (L.base+o+vs.length)).toArray
  (by simp;omega) h2 (cs.take o++xs++cs.drop (o+xs.length)) (by simp;omega) (fun i d hd=>by
   have hsp:=h4.splice hx o
   obtain⟨y,hy,h5,h6⟩:=hsp.get hd
   refine⟨y,?_,h5,h6⟩
   rw[← hy]
   simp only[List.getElem?_toArray]
   have hl1:(List.take (L.base+o) arr.toList).length=L.base+o:=by simp;omega
   have hl2:(List.take o (List.take cs.length (List.drop L.base arr.toList))).length=o:=by simp;omega
   by_cases c1:i<o
   ·rw[List.getElem?_append_left (by simp;omega),List.getElem?_append_left (by rw[hl1];omega),List.getElem?_append_left (by simp;omega),List.getElem?_append_left (by rw[hl2];omega)]
    simp only[List.getElem?_take,List.getElem?_drop]
    rw[if_pos (by omega),if_pos c1,if_pos (by omega)]
   ·by_cases c2:i<o+xs.length
    ·rw[List.getElem?_append_left (by simp;omega),List.getElem?_append_right (by rw[hl1];omega),List.getElem?_append_left (by simp;omega),List.getElem?_append_right (by rw[hl2];omega),hl1,hl2]
     congr 1
     omega
    ·have hd':i<cs.length:=by have:=(List.getElem?_eq_some_iff.1 hd).1;simp at this;omega
     rw[List.getElem?_append_right (by simp;omega),List.getElem?_append_right (by simp;omega)]
     simp only[List.getElem?_drop,List.getElem?_take,List.length_append,hl1,hl2,hxl]
     rw[if_pos (by omega)]
     congr 1
     omega)
 exact⟨_,hst,hw.1,hw.2⟩
theorem ok_clr(h:HOK G c H w){al:Al}{t e ty:TypeId}{i:TypeInfo}{z:List D}(hu:P.underlying t=some (.slice e))(hi:P.info? e=some i)(hz:zeroT P e=some z)(hzl:z.length=i.size)(hpos:0<i.size)
  {x d:D} {δ:Dl} {u:Value} (hr:Rep c w u x) (ho:clrO i.size z x H=some (d,δ)):∃ w',(Builtin.clear_ #[t] ty #[u]).run P w = .ok (.tuple #[]) w'∧Post G c H w (KO H al d δ) (.tuple #[]) w':=by
 unfold clrO at ho
 split at ho
 ·cases ho
  cases hr
  exact⟨w,by simp[Builtin.clear_,run_underlying hu],_,_,c,⟨rfl,rfl⟩,h,.any _,Step.refl _ _ _ _⟩
 ·rename_i v g sz' off len
  split at ho
  ·rename_i t' cs hrow
   split at ho
   ·rename_i hcond
    obtain⟨rfl,hfit⟩:=hcond
    cases ho
    have hv:=rowAt_some hrow
    dsimp only at hv
    obtain⟨zv,hzv,hzi,hzc⟩:=run_zeroValue hz w
    have hzsz:zv.cells.size=i.size:=by have:=(hzc c w).len;simp at this;omega
    have happ:(Dl.obj v (.row t' g (cs.take (off*i.size)++(List.replicate len z).flatten++cs.drop ((off+len)*i.size)))).app H al=H.set v (.row t' g (cs.take (off*i.size)++(List.replicate len z).flatten++cs.drop ((off+len)*i.size))):=rfl
    have hfl:(List.replicate len z).flatten.length=len*i.size:=by simp[hzl]
    have hsame:(.row t' g (cs.take (off*i.size)++(List.replicate 0 z).flatten++cs.drop ((off+0)*i.size)))=Ob.row t' g cs:=by simp
    have hset:H.set v (.row t' g cs)=H:=by
     have hlt:=(List.getElem?_eq_some_iff.1 hv).1
     have hget:=(List.getElem?_eq_some_iff.1 hv).2
     rw[← hget];exact List.set_getElem_self hlt
    cases hr with
    | osl _ _ _ _ _ cap L hι hvirt hcap hmax htop=>
     by_cases hn:len=0
     ·subst hn
      refine⟨w,by simp[Builtin.clear_,run_underlying hu],_,_,c,⟨rfl,rfl⟩,?_,.any _,?_⟩
      ·rw[happ,hsame,hset];exact h
      ·rw[happ,hsame,hset];exact Step.refl _ _ _ _
     ·have hcells:Cells c w (Builtin.zeroCells zv.cells len).toList (List.replicate len z).flatten:=by
       have h1:(Builtin.zeroCells zv.cells len).toList=(List.replicate len zv.cells.toList).flatten:=by
        unfold Builtin.zeroCells
        exact range_mod zv.cells len (by omega)
       rw[h1]
       exact flatten_replicate_cells _ _ hzc len
      obtain⟨w',k1,k2,k3⟩:=ok_cells (P:=P) (o:=off*i.size) h hv hι hvirt hcells (by rw[hfl,← Nat.add_mul];exact hfit)
      rw[hfl,← Nat.add_mul]at k2 k3
      refine⟨w',?_,_,_,c,⟨rfl,rfl⟩,k2,.any _,k3⟩
      obtain⟨len',rfl⟩:=Nat.exists_eq_succ_of_ne_zero hn
      simp[Builtin.clear_,run_underlying hu,hzv,k1]
    | oslz _ _ _ _ L hι ad=>
     refine⟨w,by cases ad<;>simp[Builtin.clear_,run_underlying hu],_,_,c,⟨rfl,rfl⟩,?_,.any _,?_⟩
     ·rw[happ,hsame,hset];exact h
     ·rw[happ,hsame,hset];exact Step.refl _ _ _ _
   ·cases ho
  ·cases ho
 ·cases ho
theorem ok_appZ(h:HOK G c H w){al:Al}(hal:AlOK H al){t u ty e:TypeId}{i:TypeInfo}{z:List D}(ht:P.underlying t=some (.slice e))(hu:P.underlying u=some (.int .i64))(hi:P.info? e=some i)(hz:zeroT P e=some z)(hzl:z.length=i.size)(hpos:0<i.size)
  {x y d:D} {δ:Dl} {ux uy:Value} (h1:Rep c w ux x) (h2:Rep c w uy y) (ho:appZO e i.size i.bytes z x y al.1=some (d,δ)) :
  ∃ r w',(Builtin.append_ #[t,u] ty #[ux,uy]).run P w = .ok r w'∧Post G c H w (KO H al d δ) r w':=by
 unfold appZO at ho
 split at ho
 ·rename_i m
  split at ho
  ·rename_i hcond
   cases ho
   cases h1
   cases h2
   obtain⟨zv,hzv,hzi,hzc⟩:=run_zeroValue hz w
   have hzi':i.zero=some zv:=by simpa[hi]using hzi
   have hzsz:zv.cells.size=i.size:=by have:=(hzc c w).len;simp at this;omega
   obtain⟨n,rfl⟩:∃ n:Nat,m=n:=⟨m.toNat,by omega⟩
   obtain⟨hn0,hby,h63⟩:=hcond
   simp only[leK]at hby h63
   have hn0':0<n:=by omega
   have hby':n*i.bytes≤140737488355328:=by
    have h1:((n*i.bytes:Nat):Int)≤140737488355328:=by rw[Int.natCast_mul];exact hby
    omega
   have h63':n≤9223372036854775807:=by omega
   have hgc:=grownCap_ge w n 0 e
   have hgm:=grownCap_le_maxLen w n 0 e (by unfold maxLen;omega)
   have wn:IntKind.i64.wrap (n:Int)=n:=wrap_i64 (by unfold inI64;omega)
   have hrun:(Builtin.append_ #[t,u] ty #[.slice none 0 0,.int .i64 n]).run P w = .ok (.slice (some ⟨w.heap.size,0,none⟩) n (grownCap w n 0 e))
     (w.drew.alloc (.cells (Builtin.zeroCells zv.cells n++Builtin.zeroCells zv.cells (grownCap w n 0 e-n)) e)):=by
    have hnz:¬ (n=0):=by omega
    have hasint:∀ w:World,(asInt (.int .i64 (n:Int))).run P w = .ok (n:Int) w:=fun w=>by simp[asInt,asIntOf]
    have hle:¬ ((n:Int)≤0):=by omega
    have hmx:max (n:Int) 0=n:=by omega
    have hnt:(n:Int).toNat=n:=by omega
    have hsz:¬ (i.size=0):=by omega
    have hneg:¬ ((n:Int)<0):=by omega
    have h48:¬ (281474976710656<(n:Int)*(i.bytes:Int)):=by have:(n:Int)*(i.bytes:Int)≤140737488355328:=hby;omega
    have h48':¬ (281474976710656<Builtin.nextslicecap n 0*i.bytes):=by have:=growslice_fits (old:=0) hn0' hby';omega
    have h63'':¬ (9223372036854775807<(n:Int)):=by omega
    simp[Builtin.append_,run_underlying ht,run_underlying hu,sizeOf,typeInfo,zeroValue,hi,hzi',hasint,wn,hneg,h48,hnz,hsz,h48',h63'',hle,hmx,Question.forced,newRow,grownCap,run_firstCells_none]
    intro h0
    exact absurd h0 (Nat.ne_of_gt (Nat.mul_pos hn0' hpos))
   refine⟨_,_,hrun,?_⟩
   have hcells:Cells c w (Builtin.zeroCells zv.cells n).toList (List.replicate n z).flatten:=by
    have h1:(Builtin.zeroCells zv.cells n).toList=(List.replicate n zv.cells.toList).flatten:=by
     unfold Builtin.zeroCells
     exact range_mod zv.cells n (by omega)
    rw[h1]
    exact flatten_replicate_cells _ _ hzc n
   have hsz:(Builtin.zeroCells zv.cells n++Builtin.zeroCells zv.cells (grownCap w n 0 e-n)).size=grownCap w n 0 e*i.size:=by
    simp only[Array.size_append,size_zeroCells,hzsz,← Nat.add_mul]
    congr 1;omega
   obtain⟨L,e1,e2,e3,e4,e5,e6⟩:=new_row h w.drew (Grew.drew w) e _ (List.replicate n z).flatten (Builtin.zeroCells zv.cells n).size (Builtin.zeroCells zv.cells n++Builtin.zeroCells zv.cells (grownCap w n 0 e-n)) (hal _).takes hcells (by
    simp only[Array.toList_append]
    exact List.take_left' (by simp)) (by simp only[Array.size_append];omega)
   have hp:=osl_new (c:=c) (w:=w.drew.alloc (.cells (Builtin.zeroCells zv.cells n++Builtin.zeroCells zv.cells (grownCap w n 0 e-n)) e)) e1 e3 al.1 0 i.size n (grownCap w n 0 e) (by rw[e4,hsz]) hgc hgm
   rw[e2]at hp
   exact⟨_,_,_,⟨rfl,rfl⟩,e5,hp,e6⟩
  ·cases ho
 ·cases ho
theorem ok_next(h:HOK G c H w){al:Al}{x d:D}{δ:Dl}{u:Value}{ty:TypeId}(hr:Rep c w u x)(ho:nextSO x H=some (d,δ)):∃ r w',(Instr.next u true ty).run P w = .ok r w'∧Post G c H w (KO H al d δ) r w':=by
 unfold nextSO at ho
 split at ho
 ·rename_i v
  split at ho
  ·rename_i s p hv
   cases hr with
   | ptr _ _ _ L hι hvirt=>
    have hob:=h.ob v _ hv
    simp only[Ob.gen]at hob
    rw[hι]at hob
    simp only[ObOK]at hob
    obtain⟨_,hb0,hblk⟩:=hob
    have hlt:=(Array.getElem?_eq_some_iff.1 hblk).1
    rw[hb0]
    by_cases hp:p<s.size
    ·rw[if_pos hp]at ho
     cases ho
     obtain⟨m1,m2⟩:=write_at h hv rfl rfl (ob':=.siter s (p+(Utf8.decode s p).2)) rfl hι hvirt (.stringIter s (p+(Utf8.decode s p).2)) (fun w' hw' _=>by
      simp only[ObOK];exact⟨hvirt,hb0,hw'⟩)
     refine⟨.tuple #[.bool true,goInt p,.int .i32 (Utf8.decode s p).1],_,?_,_,_,c,⟨rfl,rfl⟩,m1,?_,m2⟩
     ·simp[Instr.next,getObj,setObj,Sem.run,hblk,hp]
     ·refine .tup [.bool true,goInt p,.int .i32 (Utf8.decode s p).1] _ rfl fun i v d hv hd=>?_
      match i,hv,hd with
      | 0,hv,hd=>cases hv;cases hd;exact .val _
      | 1,hv,hd=>cases hv;cases hd;exact .val _
      | 2,hv,hd=>cases hv;cases hd;exact .val _
    ·rw[if_neg hp]at ho
     cases ho
     refine⟨.tuple #[.bool false],w,?_,_,_,c,⟨rfl,rfl⟩,h,?_,Step.refl _ _ _ _⟩
     ·simp[Instr.next,getObj,Sem.run,hblk,hp]
     ·refine .tup [.bool false] _ rfl fun i v d hv hd=>?_
      match i,hv,hd with
      | 0,hv,hd=>cases hv;cases hd;exact .val _
  ·cases ho
 ·cases ho
theorem ok_entry(h:HOK G c H w){x d:D}{u:Value}(hr:Rep c w u x)(ho:entryO x H=some d):∃ r,(Instr.entry u).run P w = .ok r w∧Rep c w r d:=by
 unfold entryO at ho
 split at ho
 ·rename_i v
  split at ho
  ·rename_i m since seen hv
   split at ho
   ·rename_i kk es i hm hlast
    split at ho
    ·rename_i k d0 hei
     split at ho
     ·rename_i hlen
      cases ho
      have hmv:=mapAt_some hm
      dsimp only at hmv
      cases hr with
      | ptr _ _ _ L hι hvirt=>
       have hob:=h.ob v _ hv
       simp only[Ob.gen]at hob
       rw[hι]at hob
       simp only[ObOK]at hob
       obtain⟨_,hb0,bm,hrm,hblk⟩:=hob
       cases hrm with
       | omap _ Lm hιm hvm=>
        have hobm:=h.ob m _ hmv
        simp only[Ob.gen]at hobm
        rw[hιm]at hobm
        simp only[ObOK]at hobm
        obtain⟨_,_,arr,clock,hmb,hsz,hent,hclk⟩:=hobm
        have hi:i<arr.size:=by rw[hsz];exact(List.getElem?_eq_some_iff.1 hei).1
        have hai:arr[i]? = some arr[i]:=by simp[hi]
        obtain⟨q1,q2,q3⟩:=hent i _ _ hai hei
        have hback:seen.toArray.back? = some i:=by simpa[Array.back?_eq_getElem?,List.getLast?_eq_getElem?]using hlast
        have hfind:arr.find? (fun e=>e.born == i)=some arr[i]:=by
         rw[Array.find?_eq_some_iff_getElem]
         refine⟨by simp[q3],i,hi,rfl,fun j hj=>?_⟩
         have hjl:j<es.length:=by rw[← hsz];omega
         have:=(hent j arr[j] es[j] (by simp) (by simp[hjl])).2.2
         simp[this]
         try omega
        refine⟨.tuple #[k,arr[i].val],?_,?_⟩
        ·rw[hb0]
         have hc:clock=since:=by rw[hclk,hlen]
         subst hc
         simp only[Nat.zero_add]
         simp only[Instr.entry,getObj,Sem.run_bind,Sem.run,hblk,Result.andThen_ok,hback,hmb,hfind]
         simp[q1]
        ·refine .tup [k,arr[i].val] _ rfl fun j v d hv hd=>?_
         match j,hv,hd with
         | 0,hv,hd=>cases hv;cases hd;exact .val _
         | 1,hv,hd=>cases hv;cases hd;exact q2
     ·cases ho
    ·cases ho
   ·cases ho
  ·cases ho
 ·cases ho
theorem ok_rangeM(h:HOK G c H w){al:Al}(hal:AlOK H al){t:TypeId}{k e:TypeId}(hu:P.underlying t=some (.map k e)){x d:D}{δ:Dl}{u:Value}(hr:Rep c w u x)(ho:rangeMO x H al.1=some (d,δ)) :
  ∃ r w',(Instr.range t u).run P w = .ok r w'∧Post G c H w (KO H al d δ) r w':=by
 unfold rangeMO at ho
 split at ho
 ·rename_i m
  split at ho
  ·rename_i kk es hm
   cases ho
   have hmv:=mapAt_some hm
   dsimp only at hmv
   cases hr with
   | omap _ Lm hιm hvm=>
    have hobm:=h.ob m _ hmv
    simp only[Ob.gen]at hobm
    rw[hιm]at hobm
    simp only[ObOK]at hobm
    obtain⟨_,_,arr,clock,hmb,hsz,hent,hclk⟩:=hobm
    obtain⟨k1,k2,k3⟩:=new_obj h hal (.mapIter (some Lm.b) clock #[] clock) (.miter (.omap m) es.length []) rfl rfl (fun hrep hb=>by
     simp only[ObOK]
     refine⟨trivial,trivial,Lm.b,hrep _ _ (.omap m Lm hιm hvm),?_⟩
     rw[← hclk];exact hb)
    exact⟨_,_,run_range_map w t k e Lm.b arr clock hu hmb,_,_,_,⟨rfl,rfl⟩,k1,k2,k3⟩
  ·cases ho
 ·cases ho
theorem sop_ok(h:HOK G c H w)(he:RepEnv c w env a){al:Al}(hal:AlOK H al){o:Oper}{io:IOp}(hc:compileSp P G o=some io){d:D}{δ:Dl}(hk:sopO env H al.1 io=some (d,δ)) :
  ∃ v w',Yld ((execOp a.eval o).run P w) v w'∧Post G c H w (KO H al d δ) v w':=by
 have plain:∀ {v:Value} {d:D},Rep c w v d→Post G c H w (KO H al d .no) v w:=fun hr=>⟨_,_,c,⟨rfl,rfl⟩,h,hr,Step.refl _ _ _ _⟩
 unfold compileSp at hc
 split at hc
 ·rename_i t x y ty ho
  split at hc
  ·rename_i hcond
   simp only[Option.map_eq_some_iff]at hc
   obtain⟨X,hX,rfl⟩:=hc
   have hy:y = .const (.slice none 0 0):=by
    have:=hcond.2
    unfold constNil at this
    split at this
    ·rfl
    ·cases this
   subst hy
   obtain⟨hk1,rfl⟩:=lift_some hk
   obtain⟨r,h1,h2⟩:=ok_nilS h hcond.1 (cX_ok h he hX) hk1 x (.const (.slice none 0 0))
   exact⟨r,w,by simp only[execOp,ho];exact yld_v h1,plain h2⟩
  ·cases hc
 ·rename_i t x y ty ho
  split at hc
  ·rename_i hcond
   simp only[Option.map_eq_some_iff]at hc
   obtain⟨X,hX,rfl⟩:=hc
   have hy:y = .const (.slice none 0 0):=by
    have:=hcond.2
    unfold constNil at this
    split at this
    ·rfl
    ·cases this
   subst hy
   obtain⟨hk1,rfl⟩:=lift_some hk
   obtain⟨r,h1,h2⟩:=ok_nilS h hcond.1 (cX_ok h he hX) hk1 x (.const (.slice none 0 0))
   exact⟨r,w,by simp only[execOp,ho];exact yld_v h1,plain h2⟩
  ·cases hc
 ·rename_i t x ho
  split at hc
  ·rename_i X hu hX
   cases hc
   simp only[sopO]at hk
   split at hk
   ·rename_i s hs
    cases hk
    have hr:=cX_ok h he hX
    rw[hs]at hr
    generalize hxe:a.eval x=u at hr
    cases hr
    obtain⟨k1,k2,k3⟩:=new_obj h hal (.stringIter s 0) (.siter s 0) rfl rfl (fun _ hb=>by simp only[ObOK];exact⟨trivial,trivial,hb⟩)
    refine⟨_,_,by simp only[execOp,ho,hxe];exact yld_v (v:=.pointer (some ⟨w.heap.size,0,none⟩)) (w':=w.alloc (.stringIter s 0)) (by simp[Instr.range,run_underlying hu]),_,_,_,⟨rfl,rfl⟩,k1,k2,k3⟩
   ·cases hk
  ·rename_i k e X hu hX
   cases hc
   obtain⟨r,w',h1,h2⟩:=ok_rangeM (P:=P) h hal hu (cX_ok h he hX) hk
   exact⟨r,w',by simp only[execOp,ho];exact yld_v h1,h2⟩
  ·cases hc
 ·rename_i x ho
  simp only[Option.map_eq_some_iff]at hc
  obtain⟨X,hX,rfl⟩:=hc
  obtain⟨r,w',h1,h2⟩:=ok_next (P:=P) (ty:=o.type) h (cX_ok h he hX) hk
  exact⟨r,w',by simp only[execOp,ho];exact yld_v h1,h2⟩
 ·simp only[Option.map_eq_some_iff]at hc
  obtain⟨X,hX,rfl⟩:=hc
  cases hk
 ·rename_i x ho
  simp only[Option.map_eq_some_iff]at hc
  obtain⟨X,hX,rfl⟩:=hc
  obtain⟨hk1,rfl⟩:=lift_some hk
  obtain⟨r,h1,h2⟩:=ok_entry (P:=P) h (cX_ok h he hX) hk1
  exact⟨r,w,by simp only[execOp,ho];exact yld_v h1,plain h2⟩
 ·rename_i cl ho
  split at hc
  ·rename_i t x hcal hat hargs
   split at hc
   ·rename_i hst
    simp only[Option.map_eq_some_iff]at hc
    obtain⟨X,hX,rfl⟩:=hc
    have hats:cl.argTypes = #[t]:=by rw[← Array.toArray_toList (xs:=cl.argTypes),hat]
    have hargs':cl.args = #[x]:=by rw[← Array.toArray_toList (xs:=cl.args),hargs]
    have hr:=cX_ok h he hX
    simp only[sopO]at hk
    split at hk
    ·rename_i hev
     cases hk
     rw[hev]at hr
     generalize hxe:a.eval x=u at hr
     cases hr
     have htt:∃ e,P.underlying t=some (.slice e):=by
      unfold sliceT at hst
      split at hst
      ·exact⟨_,by assumption⟩
      ·cases hst
     obtain⟨e,hu⟩:=htt
     refine⟨.int .i64 0,w,by rw[run_call ho hcal,hats,hargs'];exact yld_v (by simp[hxe,Builtin.cap_,run_underlying hu,goInt]),plain (.val _)⟩
    ·cases hk
   ·cases hc
  ·rename_i t x hcal hat hargs
   have hats:cl.argTypes = #[t]:=by rw[← Array.toArray_toList (xs:=cl.argTypes),hat]
   have hargs':cl.args = #[x]:=by rw[← Array.toArray_toList (xs:=cl.args),hargs]
   split at hc
   ·rename_i e hu
    split at hc
    ·rename_i z i X hz hi hX
     split at hc
     ·rename_i hcond
      cases hc
      obtain⟨w',h1,h2⟩:=ok_clr (P:=P) (al:=al) (ty:=o.type) h hu hi hz hcond.1 hcond.2 (cX_ok h he hX) hk
      exact⟨_,w',by rw[run_call ho hcal,hats,hargs'];exact yld_v (by simpa using h1),h2⟩
     ·cases hc
    ·cases hc
   ·cases hc
  ·rename_i t u x y hcal hat hargs
   have hats:cl.argTypes = #[t,u]:=by rw[← Array.toArray_toList (xs:=cl.argTypes),hat]
   have hargs':cl.args = #[x,y]:=by rw[← Array.toArray_toList (xs:=cl.args),hargs]
   split at hc
   ·rename_i e hu hu2
    split at hc
    ·rename_i z i X Y hz hi hX hY
     split at hc
     ·rename_i hcond
      cases hc
      obtain⟨r,w',h1,h2⟩:=ok_appZ (P:=P) (ty:=o.type) h hal hu hu2 hi hz hcond.1 hcond.2 (cX_ok h he hX) (cX_ok h he hY) hk
      exact⟨r,w',by rw[run_call ho hcal,hats,hargs'];exact yld_v (by simpa using h1),h2⟩
     ·cases hc
    ·cases hc
   ·cases hc
  ·cases hc
 ·cases hc
end
end Go.AL
namespace Go.AL
open Go
abbrev FW(ro:Option Nat):Fence:={ Fence.wide with round:=ro }
theorem callsIn_FW{ro:Option Nat}{n:Nat}{P:Program}{f:FuncId}{args:Array Value}{w:World}{R:Ending→World→Prop}:CallsIn (FW ro) n P f args w R↔Calls P f args w R:=
 callsIn_wide (n:=n)
inductive MOK(c:Ctx):List Nat→List Deferred→Prop
 | nil:MOK c [] []
 | cons {v:Nat} {vs:List Nat} {ds:List Deferred} (L:Loc) (h1:c.ι v 0=some L) (h2:L.virt=false) (h:MOK c vs ds):MOK c (v::vs) ({ target:=.collected L.b,args:=#[] }::ds)
theorem MOK.mono{c c':Ctx}(hι:∀ v L,c.ι v 0=some L→c'.ι v 0=some L){vs:List Nat}{ds:List Deferred}(h:MOK c vs ds):MOK c' vs ds:=by
 induction h with
 | nil=>exact .nil
 | cons L h1 h2 _ ih=>exact .cons L (hι _ _ h1) h2 ih
structure SOK(G:GT)(N:Nat)(c:Ctx)(w:World)(s:St)(a:Act):Prop where
 hok:HOK G c s.H w
 env:RepEnv c w s.env.get a
 size:N≤a.tmps.size
 marks:MOK c s.marks a.defers
def dstOK(N:Nat):Option Tmp→Bool
 | some d=>decide (d<N)
 | none=>true
def compileAny(P:Program)(G:GT)(o:Oper):Option IOp:=match compileOp P G o with
 | some op=>some op
 | none=>compileSp P G o
def compileOper(P:Program)(G:GT)(N:Nat)(ops:Array Oper)(o:Oper):Option IEnt:=
 match compileAny P G o with
 | none=>none
 | some op=>if dstOK N o.dst=true then(match o.guard with
   | none=>some ⟨o.dst,op,none⟩
   | some (j,want)=>match (ops[j]?).bind (·.dst)with
    | some t=>some ⟨o.dst,op,some (t,want)⟩
    | none=>none)else none
def compileOpers(P:Program)(G:GT)(N:Nat)(ops:Array Oper):List Oper→Option (List IEnt)
 | []=>some []
 | o::r=>match compileOper P G N ops o,compileOpers P G N ops r with
  | some e,some l=>some (e::l)
  | _,_=>none
section
variable{P:Program}{G:GT}{c:Ctx}{w:World}{env:EnvF}{a:Act}{N:Nat}
theorem put_eval{env:Env}{a:Act}{c:Ctx}{w:World}(he:RepEnv c w env.get a)(hN:N≤a.tmps.size){dst:Option Tmp}(hd:dstOK N dst=true){v:Value}{d:D}(hr:Rep c w v d) :
  RepEnv c w (put env dst d).get (a.put dst v):=by
 cases dst with
 | none=>exact he
 | some t=>
  have ht:t<a.tmps.size:=Nat.lt_of_lt_of_le (by simpa[dstOK]using hd) hN
  intro k
  simp only[put,Env.get_cons,Act.put]
  split
  ·rename_i e
   subst e
   have:(a.tmps.setIfInBounds t v).getD t undef=v:=by simp[Array.getD,ht]
   rw[this];exact hr
  ·rename_i e
   have:(a.tmps.setIfInBounds t v).getD k undef=a.tmps.getD k undef:=by
    simp only[Array.getD_eq_getD_getElem?,Array.getElem?_setIfInBounds_ne e]
   rw[this];exact he k
theorem put_size{a:Act}{dst:Option Tmp}{v:Value}:(a.put dst v).tmps.size=a.tmps.size:=by
 cases dst<;>simp[Act.put]
theorem put_defers{a:Act}{dst:Option Tmp}{v:Value}:(a.put dst v).defers=a.defers:=by
 cases dst<;>rfl
theorem RepEnv.carry{c c':Ctx}{w w':World}(h:∀ v d,Rep c w v d→Rep c' w' v d)(he:RepEnv c w env a):RepEnv c' w' env a:=fun k=>h _ _ (he k)
theorem SOK.next{c':Ctx}{w':World}{H':Heap}{s:St}(hs:SOK G N c w s a)(hok:HOK G c' H' w')(hst:Step s.H.length c s.H w c' H' w'){dst:Option Tmp}(hd:dstOK N dst=true)
  {v:Value} {d:D} (hr:Rep c' w' v d):SOK G N c' w' { s with env:=put s.env dst d,H:=H' } (a.put dst v) where
 hok:=hok
 env:=put_eval (hs.env.carry fun _ _ h=>h.step0 hs.hok.toHeapOK hst) hs.size hd hr
 size:=by rw[put_size];exact hs.size
 marks:=by
  rw[put_defers]
  refine hs.marks.mono fun v L h=>hst.old v 0 L ?_ h
  rcases Nat.lt_or_ge v s.H.length with h'|h'
  ·exact h'
  ·rw[hs.hok.out v 0 h']at h;cases h
theorem wanted_ok(he:RepEnv c w env a){ops:Array Oper}{o:Oper}{g:Option (Nat×Bool)}(hg:match o.guard with
   | none=>g=none
   | some (j,want)=>∃ t,(ops[j]?).bind (·.dst)=some t∧g=some (t,want)) {b:Bool} (h:guardOf env g=some b):Region.wanted o (yielded ops a.tmps)=b:=by
 unfold Region.wanted
 split at hg
 ·rename_i hgu
  subst hg
  simp only[guardOf,Option.some.injEq]at h
  simp[hgu,h]
 ·rename_i j want hgu
  obtain⟨t,ht,rfl⟩:=hg
  simp only[guardOf]at h
  split at h
  ·rename_i x hx
   cases h
   have hr:=he t
   rw[hx]at hr
   generalize hv:a.tmps.getD t undef=v at hr
   cases hr
   have hget:a.tmps[t]? = some (.bool x):=by
    rw[Array.getD_eq_getD_getElem?]at hv
    cases hq:a.tmps[t]? with
    | none=>rw[hq]at hv;simp[undef]at hv
    | some q=>rw[hq]at hv;simpa using hv
   simp only[hgu,yielded,ht,Option.bind_some,hget]
   cases x<;>cases want<;>rfl
  ·rename_i vs hx
   cases h
   have hr:=he t
   rw[hx]at hr
   generalize hv:a.tmps.getD t undef=v at hr
   cases hr
   have hget:a.tmps[t]? = some (.tuple vs)∨a.tmps[t]? = none:=by
    rw[Array.getD_eq_getD_getElem?]at hv
    cases hq:a.tmps[t]? with
    | none=>exact .inr rfl
    | some q=>rw[hq]at hv;exact .inl (by simpa using hv)
   rcases hget with hget|hget<;>simp only[hgu,yielded,ht,Option.bind_some,hget]<;>cases want<;>rfl
  ·cases h
theorem compileAny_spec{o:Oper}{op:IOp}(h:compileAny P G o=some op):compileOp P G o=some op∨compileSp P G o=some op:=by
 unfold compileAny at h
 split at h
 ·cases h;exact .inl (by assumption)
 ·exact .inr h
theorem comp_plain{o:Oper}{io:IOp}(hc:compileOp P G o=some io∨compileSp P G o=some io){f:EnvF}{H:Heap}{n:Nat}{r:D×Dl}(h:aopO f H n io=some r):compileOp P G o=some io:=by
 refine hc.resolve_right fun h2=>?_
 rw[special_aop (compileSp_special h2)]at h
 cases h
theorem comp_callee{o:Oper}{io:IOp}(hc:compileOp P G o=some io∨compileSp P G o=some io){f:EnvF}{r:FuncId×List D}(h:calleeOf f io=some r):compileOp P G o=some io:=by
 refine hc.resolve_right fun h2=>?_
 rw[special_callee (compileSp_special h2)]at h
 cases h
theorem compileOper_spec{ops:Array Oper}{o:Oper}{e:IEnt}(h:compileOper P G N ops o=some e) :
  (compileOp P G o=some e.op∨compileSp P G o=some e.op)∧e.dst=o.dst∧(dstOK N o.dst=true)∧(match o.guard with
   | none=>e.guard=none
   | some (j,want)=>∃ t,(ops[j]?).bind (·.dst)=some t∧e.guard=some (t,want)):=by
 unfold compileOper at h
 split at h
 ·cases h
 ·rename_i op hop
  split at h
  ·rename_i hd
   split at h
   ·rename_i hg
    cases h
    exact⟨compileAny_spec hop,rfl,hd,by simp[hg]⟩
   ·rename_i j want hg
    split at h
    ·rename_i t ht
     cases h
     exact⟨compileAny_spec hop,rfl,hd,t,ht,rfl⟩
    ·cases h
  ·cases h
theorem no_defer{o:Oper}{io:IOp}(h:compileOp P G o=some io):∀ c,o.op≠.defer c:=by
 intro c hc
 simp[compileOp,hc]at h
theorem no_deferS{o:Oper}{io:IOp}(h:compileSp P G o=some io):∀ c,o.op≠.defer c:=by
 intro c hc
 simp[compileSp,hc]at h
theorem wp_special{ro:Option Nat}{n:Nat}{o:Oper}{s:St}{io:IOp}{d:D}{δ:Dl}{next:Act→World→Prop}{Q:Exit→Act→World→Prop}(hs:SOK G N c w s a)(hc:compileSp P G o=some io)
  (hd:dstOK N o.dst=true) {al:Al} (hal:AlOK s.H al) (h:sopO s.env.get s.H al.1 io=some (d,δ))
  (k:∀ c' w' a',SOK G N c' w' { s with env:=put s.env o.dst d,H:=δ.app s.H al } a'→Step s.H.length c s.H w c' (δ.app s.H al) w'→next a' w'):o.wpIn (FW ro) n P a w next Q:=by
 obtain⟨v,w',hy,d',H',c',⟨rfl,rfl⟩,hok,hr,hst⟩:=sop_ok (P:=P) hs.hok hs.env hal hc h
 refine⟨fun _ _=>trivial,?_⟩
 rw[Oper.semAt_plain (FW ro) a.eval o (no_deferS hc)]
 have hn:=k c' w' (a.put o.dst v) (hs.next hok hst hd hr) hst
 rcases hy with hy|⟨hy,rfl⟩
 ·rw[hy];exact hn
 ·rw[hy];exact hn
theorem wp_next{ro:Option Nat}{n:Nat}{o:Oper}{s:St}{x:X}{next:Act→World→Prop}{Q:Exit→Act→World→Prop}(hs:SOK G N c w s a)(hc:compileSp P G o=some (.nextM x))
  (hd:dstOK N o.dst=true) {v m since:Nat} {seen:List Nat} {kk:KK} {es:List (Value×D)} (hx:ev s.env.get x = .ptr v 0 0) (hv:s.H[v]? = some (.miter (.omap m) since seen)) (hm:s.H[m]? = some (.map kk es)) (hsn:es.length=since)
  (k0:(∀ i,i<es.length→i∈seen)→∀ c' w' a',SOK G N c' w' { s with env:=put s.env o.dst (.tup [.b false]) } a'→Step s.H.length c s.H w c' s.H w'→next a' w')
  (k1:∀ i k d,es[i]? = some (k,d)→i ∉ seen→∀ c' w' a',SOK G N c' w' { s with env:=put s.env o.dst (.tup [.b true,.val k,d]),H:=s.H.set v (.miter (.omap m) since (seen ++ [i])) } a' →
   Step s.H.length c s.H w c' (s.H.set v (.miter (.omap m) since (seen ++ [i]))) w'→next a' w'):o.wpIn (FW ro) n P a w next Q:=by
 have hop:∃ y,o.op = .next y false∧cX G y=some x:=by
  unfold compileSp at hc
  repeat' split at hc
  all_goals first|(cases hc;done)|(simp only[Option.map_eq_some_iff]at hc;obtain⟨_,_,hh⟩:=hc;cases hh;done)|skip
  simp only[Option.map_eq_some_iff]at hc
  obtain⟨X,hX,hh⟩:=hc
  cases hh
  exact⟨_,by assumption,hX⟩
 obtain⟨y,ho,hX⟩:=hop
 have hr:=cX_ok hs.hok hs.env hX
 rw[hx]at hr
 generalize hu:a.eval y=u at hr
 cases hr with
 | ptr _ _ _ L hι hvirt=>
  have hob:=hs.hok.ob v _ hv
  simp only[Ob.gen]at hob
  rw[hι]at hob
  simp only[ObOK]at hob
  obtain⟨_,hb0,bm,hrm,hblk⟩:=hob
  cases hrm with
  | omap _ Lm hιm hvm=>
   have hobm:=hs.hok.ob m _ hm
   simp only[Ob.gen]at hobm
   rw[hιm]at hobm
   simp only[ObOK]at hobm
   obtain⟨_,_,arr,clock,hmb,hsz,hent,hclk⟩:=hobm
   have hc':clock=since:=by rw[hclk,hsn]
   subst hc'
   refine⟨fun _ _=>trivial,?_⟩
   rw[Oper.semAt_plain (FW ro) a.eval o (no_deferS hc)]
   have hborn:∀ e∈arr.toList,e.born<clock:=by
    intro e he
    obtain⟨i,hi⟩:=List.mem_iff_getElem?.1 he
    have hil:i<es.length:=by rw[← hsz];have:=(List.getElem?_eq_some_iff.1 hi).1;simpa using this
    have:=(hent i e es[i] (by simpa using hi) (by simp[hil])).2.2
    omega
   have htest:=next_test_false seen.toArray arr clock clock hborn (Nat.le_refl _)
   have hold:(leftOf arr seen.toArray).filter (fun e=>decide (e.born<clock))=leftOf arr seen.toArray:=by
    apply Array.filter_eq_self.2
    intro e he
    simp only[decide_eq_true_eq]
    exact hborn e (by simpa using (Array.mem_filter.1 he).1)
   have hnew:(leftOf arr seen.toArray).filter (fun e=>decide (e.born≥clock)) = #[]:=by
    apply Array.filter_eq_empty_iff.2
    intro e he
    have:=hborn e (by simpa using (Array.mem_filter.1 he).1)
    simp;omega
   have hgo1:∀ w1:World,w1.heap=w.heap→(getObj L.b).run P w1 = .ok (.mapIter (some Lm.b) clock seen.toArray clock) w1:=fun w1 h1=>by simp[getObj,Sem.run,h1,hblk]
   have hgo2:∀ w1:World,w1.heap=w.heap→(getObj Lm.b).run P w1 = .ok (.map arr clock) w1:=fun w1 h1=>by simp[getObj,Sem.run,h1,hmb]
   have hmem:∀ e,e∈(leftOf arr seen.toArray).toList→∃ i k d,es[i]? = some (k,d)∧i ∉ seen∧e.key=k∧Rep c w e.val d∧e.born=i:=by
    intro e he
    have he':e∈arr∧(!seen.toArray.contains e.born)=true:=by
     have:=Array.mem_filter.1 (show e∈leftOf arr seen.toArray by simpa using he)
     exact this
    obtain⟨i,hi⟩:=List.mem_iff_getElem?.1 (show e∈arr.toList by simpa using he'.1)
    have hil:i<es.length:=by rw[← hsz];have:=(List.getElem?_eq_some_iff.1 hi).1;simpa using this
    obtain⟨q1,q2,q3⟩:=hent i e es[i] (by simpa using hi) (by simp[hil])
    refine⟨i,es[i].1,es[i].2,by simp[hil],?_,q1,q2,q3⟩
    have:=he'.2
    rw[q3]at this
    simpa using this
   by_cases hleft:(leftOf arr seen.toArray) = #[]
   ·have hrun:(execOp a.eval o).run P w = .ok (.value (.tuple #[.bool false])) w:=by
     have h2:(Instr.next (.pointer (some ⟨L.b,0,none⟩)) false o.type).run P w = .ok (.tuple #[.bool false]) w:=by
      have hlf:(arr.filter fun e => !(seen.toArray).contains e.born) = #[]:=hleft
      simp only[Instr.next,Sem.run_bind,hgo1 w rfl,Result.andThen_ok,hgo2 w rfl,htest,Bool.false_eq_true,if_false,Sem.run_pure,hlf]
      simp[choose,Sem.run,Question.forced]
     simp only[execOp,ho,hu]
     rw[hb0]
     simp[h2]
    rw[hrun]
    refine k0 (fun i hi=>?_) c w _ (hs.next hs.hok (Step.refl _ _ _ _) hd (.tup [.bool false] _ rfl fun j v d hv hd=>?_)) (Step.refl _ _ _ _)
    ·by_cases hin:i∈seen
     ·exact hin
     ·exfalso
      have hia:i<arr.size:=by omega
      have hborni:=(hent i arr[i] es[i] (by simp[hia]) (by simp[hi])).2.2
      have:arr[i]∈leftOf arr seen.toArray:=by
       refine Array.mem_filter.2 ⟨Array.getElem_mem _,?_⟩
       rw[hborni];simpa using hin
      rw[hleft]at this
      simp at this
    ·match j,hv,hd with
     | 0,hv,hd=>cases hv;cases hd;exact .val _
   ·have hne:(leftOf arr seen.toArray).isEmpty=false:=by
     cases hq:(leftOf arr seen.toArray).isEmpty with
     | false=>rfl
     | true=>exact absurd (Array.isEmpty_iff.1 hq) hleft
    have hpos:0<(leftOf arr seen.toArray).size:=by
     rcases Nat.eq_zero_or_pos (leftOf arr seen.toArray).size with h|h
     ·exact absurd (Array.eq_empty_of_size_eq_zero h) hleft
     ·exact h
    have hch:∃ (i:Nat) (w1:World),i<(leftOf arr seen.toArray).size∧Grew w w1∧w1.heap=w.heap∧(choose (.mapNext (leftOf arr seen.toArray).size)).run P w = .ok i w1:=by
     by_cases hf:(Question.mapNext (leftOf arr seen.toArray).size).forced=true
     ·exact⟨0,w,hpos,Grew.refl w,rfl,by simp[choose,Sem.run,hf]⟩
     ·exact⟨w.tape w.drawn (.mapNext (leftOf arr seen.toArray).size) % (leftOf arr seen.toArray).size,{ w with drawn:=w.drawn+1 },Nat.mod_lt _ hpos,Grew.drew w,rfl,by simp[choose,Sem.run,hf,Question.cut]⟩
    obtain⟨i,w1,hi,hgrew,hheap,hchoose⟩:=hch
    obtain⟨i',k,d,h1,h2,h3,h4,h5⟩:=hmem (leftOf arr seen.toArray)[i] (by simp)
    have hok1:=hs.hok.grew hgrew
    obtain⟨m1,m2⟩:=write_at hok1 hv rfl rfl (ob':=.miter (.omap m) clock (seen ++ [i'])) rfl hι hvirt (.mapIter (some Lm.b) clock (seen ++ [i']).toArray clock) (fun w' hw' hrep=>by
     simp only[ObOK]
     exact⟨hvirt,hb0,Lm.b,.omap m Lm hιm hvm,hw'⟩)
    have hst:Step s.H.length c s.H w c (s.H.set v (.miter (.omap m) clock (seen ++ [i']))) { w1 with heap:=w1.heap.setIfInBounds L.b (.mapIter (some Lm.b) clock (seen ++ [i']).toArray clock) }:=(step_grew _ hgrew).trans m2 (Nat.le_refl _)
    have hrun:(execOp a.eval o).run P w = .ok (.value (.tuple #[.bool true,k,(leftOf arr seen.toArray)[i].val])) { w1 with heap:=w1.heap.setIfInBounds L.b (.mapIter (some Lm.b) clock (seen ++ [i']).toArray clock) }:=by
     have hset:(setObj L.b (.mapIter (some Lm.b) clock (seen ++ [i']).toArray clock)).run P w1 = .ok () { w1 with heap:=w1.heap.setIfInBounds L.b (.mapIter (some Lm.b) clock (seen ++ [i']).toArray clock) }:=by
      simp[setObj,Sem.run,hheap,hblk]
     have h2:(Instr.next (.pointer (some ⟨L.b,0,none⟩)) false o.type).run P w = .ok (.tuple #[.bool true,k,(leftOf arr seen.toArray)[i].val]) { w1 with heap:=w1.heap.setIfInBounds L.b (.mapIter (some Lm.b) clock (seen ++ [i']).toArray clock) }:=by
      have hlf:(arr.filter fun e => !(seen.toArray).contains e.born)=leftOf arr seen.toArray:=rfl
      have hcs:((if (leftOf arr seen.toArray).isEmpty then #[none]else #[])++(leftOf arr seen.toArray ++ #[]).map some)=(leftOf arr seen.toArray).map some:=by simp[hne]
      simp only[Instr.next,Sem.run_bind,hgo1 w rfl,Result.andThen_ok,hgo2 w rfl,htest,Bool.false_eq_true,if_false,Sem.run_pure,hlf,hold,hnew,hcs,Array.size_map,hchoose]
      have hgi:((leftOf arr seen.toArray).map some)[i]? = some (some (leftOf arr seen.toArray)[i]):=by simp[hi]
      simp only[hgi,Sem.run_bind]
      rw[h5,show seen.toArray.push i'=(seen ++ [i']).toArray by simp,hset]
      simp[h3]
     simp only[execOp,ho,hu]
     rw[hb0]
     simp[h2]
    rw[hrun]
    refine k1 i' k d h1 h2 c _ _ (hs.next m1 hst hd (.tup [.bool true,k,(leftOf arr seen.toArray)[i].val] _ rfl fun j v d hv hd=>?_)) hst
    match j,hv,hd with
    | 0,hv,hd=>cases hv;cases hd;exact .val _
    | 1,hv,hd=>cases hv;cases hd;exact .val _
    | 2,hv,hd=>cases hv;cases hd;exact h4.step0 hs.hok.toHeapOK hst
theorem wp_plain{ro:Option Nat}{n:Nat}{o:Oper}{s:St}{io:IOp}{d:D}{δ:Dl}{next:Act→World→Prop}{Q:Exit→Act→World→Prop}(hs:SOK G N c w s a)(hc:compileOp P G o=some io)
  (hd:dstOK N o.dst=true) {al:Al} (hal:AlOK s.H al) (h:aopO s.env.get s.H al.1 io=some (d,δ))
  (k:∀ c' w' a',SOK G N c' w' { s with env:=put s.env o.dst d,H:=δ.app s.H al } a'→Step s.H.length c s.H w c' (δ.app s.H al) w'→next a' w'):o.wpIn (FW ro) n P a w next Q:=by
 obtain⟨v,w',hy,d',H',c',⟨rfl,rfl⟩,hok,hr,hst⟩:=plain_ok (P:=P) (K:=fun d' H'=>d'=d∧H'=δ.app s.H al) hs.hok hs.env hal hc (aop_of_aopO h ⟨rfl,rfl⟩)
 refine⟨fun _ _=>trivial,?_⟩
 rw[Oper.semAt_plain (FW ro) a.eval o (no_defer hc)]
 have hn:=k c' w' (a.put o.dst v) (hs.next hok hst hd hr) hst
 rcases hy with hy|⟨hy,rfl⟩
 ·rw[hy];exact hn
 ·rw[hy];exact hn
end
end Go.AL
