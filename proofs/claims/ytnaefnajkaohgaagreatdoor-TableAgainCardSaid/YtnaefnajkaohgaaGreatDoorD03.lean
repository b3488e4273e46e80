/- Part 3 of the proof of skewer.skewerlaw15.TableAgain. -/
import Derived.Test.YtnaefnajkaohgaaGreatDoorD01
import Derived.Test.YtnaefnajkaohgaaGreatDoorD02
import Derived.Laws.IdiomRangeMap
import Derived.RangeFuncLeaves
import Derived.OwnWalkIn
set_option linter.all false
namespace Go.AL
open Go
def Fi:Int→Bool
 | .ofNat m=>Nat.ble m 9223372036854775807
 | .negSucc m=>Nat.ble m 9223372036854775807
theorem Vv(n:Int):Fi n=true↔lx n:=by
 unfold lx
 cases n with
 | ofNat m=>
  have e:Fi (.ofNat m)=Nat.ble m 9223372036854775807:=rfl
  rw[e,Nat.ble_eq]
  have:(Int.ofNat m)=(m:Int):=rfl
  omega
 | negSucc m=>
  have e:Fi (.negSucc m)=Nat.ble m 9223372036854775807:=rfl
  rw[e,Nat.ble_eq]
  have:Int.negSucc m = -((m:Int)+1):=Int.negSucc_eq m
  omega
instance(n:Int):Decidable (lx n):=decidable_of_iff (Fi n=true) (Vv n)
def Fu(k:Nat):Int→Bool
 | .ofNat m=>Nat.ble m k
 | .negSucc _=>true
def np(n:Int)(k:Nat):Prop:=n≤(k:Int)
theorem Wg(n:Int)(k:Nat):Fu k n=true↔np n k:=by
 unfold np
 cases n with
 | ofNat m=>
  have e:Fu k (.ofNat m)=Nat.ble m k:=rfl
  rw[e,Nat.ble_eq]
  have:(Int.ofNat m)=(m:Int):=rfl
  omega
 | negSucc m=>
  have e:Fu k (.negSucc m)=true:=rfl
  rw[e]
  have:Int.negSucc m = -((m:Int)+1):=Int.negSucc_eq m
  simp only[true_iff]
  omega
instance(n:Int)(k:Nat):Decidable (np n k):=decidable_of_iff (Fu k n=true) (Wg n k)
inductive Dl where
 | no
 | cells (v o:Nat) (xs:List D)
 | obj (v:Nat) (ob:Ob)
 | new (ob:Ob)
 deriving Inhabited
def Dl.app(H:U)(al:Al):Dl→U
 | .no=>H
 | .cells v o xs=>match H[v]? with
  | some (.row t g cs)=>H.set v (.row t g (cs.take o++xs++cs.drop (o+xs.length)))
  | _=>H
 | .obj v ob=>H.set v ob
 | .new ob=>al.2 ob
abbrev R:=Option (D×Dl)
def ret(d:D):R:=some (d,.no)
def iD(op:BinOp)(k:IntKind)(a b:Int):Option D:=
 match op with
 | .add=>if k = .i64 then(if lx (a+b)then some (.val (.int .i64 (a+b)))else none)else some (.val (.int k (k.wrap (a+b))))
 | .sub=>if k = .i64 then(if lx (a-b)then some (.val (.int .i64 (a-b)))else none)else some (.val (.int k (k.wrap (a-b))))
 | .mul=>if k = .i64 then(if lx (a*b)then some (.val (.int .i64 (a*b)))else none)else some (.val (.int k (k.wrap (a*b))))
 | .quo=>if b=0 then none else some (.val (.int k (k.wrap (a.tdiv b))))
 | .rem=>if b=0 then none else some (.val (.int k (a.tmod b)))
 | .and | .or | .xor | .andNot=>some (.val (.int k (bits op k a b)))
 | .eql=>some (.val (.bool (a == b)))
 | .neq=>some (.val (.bool (a != b)))
 | .lss=>some (.val (.bool (decide (a<b))))
 | .leq=>some (.val (.bool (decide (a≤b))))
 | .gtr=>some (.val (.bool (decide (a>b))))
 | .geq=>some (.val (.bool (decide (a≥b))))
 | _=>none
def Kc(op:BinOp)(k:IntKind)(a b:Int):Option D:=
 match op with
 | .shl=>if 0≤b then some (.val (.int k (k.wrap (a*2 ^ (min b.toNat k.bits)))))else none
 | .shr=>if 0≤b then some (.val (.int k (a.fdiv (2 ^ (min b.toNat k.bits)))))else none
 | _=>none
def ya(op:BinOp)(a b:ByteArray):Option D:=
 match op with
 | .eql=>some (.val (.bool (a.data.toList == b.data.toList)))
 | .neq=>some (.val (.bool (!(a.data.toList == b.data.toList))))
 | .add=>if np ((a.size+b.size:Nat):Int) 9223372036854775807 then some (.val (.string (a++b)))else none
 | _=>none
def jy(op:BinOp)(x y:D):Option D:=
 match x,y with
 | .val (.int k a),.val (.int k' b)=>if nk op then Kc op k a b else if k=k' then iD op k a b else none
 | .val (.string a),.val (.string b)=>ya op a b
 | _,_=>none
def Bn(op:UnOp)(x:D):Option D:=
 match op,x with
 | .not,.val (.bool b)=>some (.val (.bool (!b)))
 | .neg,.val (.int .i64 n)=>if lx (-n)then some (.val (.int .i64 (-n)))else none
 | .xor,.val (.int k n)=>some (.val (.int k (bits .xor k (if k.signed then -1 else k.max) n)))
 | _,_=>none
def uW(ie:Bool)(ls:List mi)(neg:Bool)(x y:D):Option D:=
 match ie,x,y with
 | true,.agg a,.agg b=>match lV ls a b with
  | some r=>some (.val (.bool (if neg then !r else r)))
  | none=>none
 | false,x,y=>match lV ls [x] [y]with
  | some r=>some (.val (.bool (if neg then !r else r)))
  | none=>none
 | _,_,_=>none
def vR(c a b:D):Option D:=
 match c with
 | .val (.bool x)=>some (if x then a else b)
 | _=>none
def rn(x:D)(H:U):Option D:=
 match x with
 | .ptr v g o=>match rowAt H v g with
  | some (_,cs)=>cs[o]?
  | none=>none
 | .eZ cs=>cs[0]?
 | _=>none
def rp(n:Nat)(x:D)(H:U):Option D:=
 match x with
 | .ptr v g o=>match rowAt H v g with
  | some (_,cs)=>if o+n≤cs.length then some (.agg ((cs.drop o).take n))else none
  | none=>none
 | .eZ cs=>if n≤cs.length then some (.agg (cs.take n))else none
 | _=>none
def wh(a x:D)(H:U):R:=
 match a with
 | .ptr v g o=>match rowAt H v g with
  | some (_,cs)=>if o<cs.length∧one x=true then some (.any,.cells v o [x])else none
  | none=>none
 | _=>none
def wi(n:Nat)(a x:D)(H:U):R:=
 match a,cellsOf x with
 | .ptr v g o,some xs=>match rowAt H v g with
  | some (_,cs)=>if xs.length=n∧o+n≤cs.length then some (.any,.cells v o xs)else none
  | none=>none
 | _,_=>none
def pG(t:TypeId)(x:D)(n:Nat):R:=
 match cellsOf x with
 | some cs=>some (.ptr n 0 0,.new (.row t 0 cs))
 | none=>none
def wJ(env:fD)(z:List D)(ps:List (Nat×Nat×X)):Option D:=
 match partsOf env ps with
 | some l=>match lay l z with
  | some cs=>some (.agg cs)
  | none=>none
 | none=>none
def tg(env:fD)(t sz:Nat)(z:List D)(m:Nat)(ps:List (Nat×X))(n:Nat):R:=
 match partsOf env (ps.map fun p=>(p.1*sz,sz,p.2))with
 | some l=>match lay l (List.replicate m z).flatten with
  | some cs=>some (.eN n 0 sz 0 m,.new (.row t 0 cs))
  | none=>none
 | none=>none
def zj(off:Nat)(x:D):Option D:=
 match x with
 | .ptr v g o=>some (.ptr v g (o+off))
 | .eZ cs=>some (.eZ (cs.drop off))
 | _=>none
def u5(off n:Nat)(ie:Bool)(x:D):Option D:=
 match x with
 | .agg cs=>if ie then(if off+n≤cs.length then some (.agg ((cs.drop off).take n))else none)else cs[off]?
 | _=>none
def mb(sz:Nat)(x i:D):Option D:=
 match x,i with
 | .sl fG es,.val (.int _ n)=>if fG=sz∧0≤n∧n<es.length then some (.eZ (es.getD n.toNat []))else none
 | .eN v g fG off len,.val (.int _ n)=>if fG=sz∧0≤n∧n<len then some (.ptr v g ((off+n.toNat)*sz))else none
 | _,_=>none
def Ai(sz n:Nat)(x i:D):Option D:=
 match x,i with
 | .ptr v g o,.val (.int _ k)=>if 0≤k∧k<n then some (.ptr v g (o+k.toNat*sz))else none
 | .eZ cs,.val (.int _ k)=>if 0≤k∧k<n then some (.eZ (cs.drop (k.toNat*sz)))else none
 | _,_=>none
def Fj(sz n:Nat)(ie:Bool)(x i:D):Option D:=
 match x,i with
 | .agg cs,.val (.int _ k)=>if 0≤k∧k<n then u5 (k.toNat*sz) sz ie (.agg cs)else none
 | _,_=>none
def Jc(x i:D):Option D:=
 match x,i with
 | .val (.string s),.val (.int _ k)=>if 0≤k∧k<s.size then some (.val (.int .u8 ((s.data.toList.getD k.toNat 0).toNat)))else none
 | _,_=>none
def vI(oT:KK)(z:D)(ok:Bool)(m k:D)(H:U):Option D:=
 match m,keyOf k with
 | .omap v,some kv=>match jW H v with
  | some (kk,es)=>if kk=oT∧kk.has kv=true then(match ny es kv with
    | some d=>some (if ok then .tup [d,.val (.bool true)]else d)
    | none=>some (if ok then .tup [z,.val (.bool false)]else z))else none
  | none=>none
 | _,_=>none
def ub(oT:KK)(m k x:D)(H:U):R:=
 match m,keyOf k with
 | .omap v,some kv=>match jW H v with
  | some (kk,es)=>if kk=oT∧kk.has kv=true then some (.any,.obj v (.map kk (kl es kv x)))else none
  | none=>none
 | _,_=>none
def Eb(x:D)(i:Nat):Option D:=
 match x with
 | .tup ds=>ds[i]?
 | _=>none
def xF(t sz bytes:Nat)(z:List D)(l c:D)(v:Nat):R:=
 match l,c with
 | .val (.int _ n),.val (.int _ m)=>if 0≤n∧n≤m∧np m 9223372036854775807∧np ((bytes:Int)*m) 281474976710656 then some (.eN v 0 sz 0 n.toNat,.new (.row t 0 (List.replicate m.toNat z).flatten))else none
 | _,_=>none
def qD(env:fD)(sz:Nat)(x:D)(lo hi:Option X):Option D:=
 match x with
 | .sl fG es=>match gZ env lo 0,gZ env hi es.length with
  | some l,some h=>if fG=sz∧0≤l∧l≤h∧h≤es.length then some (.sl sz ((es.drop l.toNat).take (h.toNat-l.toNat)))else none
  | _,_=>none
 | .eN v g fG off len=>match gZ env lo 0,gZ env hi len with
  | some l,some h=>if fG=sz∧0≤l∧l≤h∧h≤len then some (.eN v g sz (off+l.toNat) (h.toNat-l.toNat))else none
  | _,_=>none
 | .emp=>match gZ env lo 0,gZ env hi 0 with
  | some l,some h=>if l=0∧h=0 then some .emp else none
  | _,_=>none
 | _=>none
def Gn(env:fD)(x:D)(lo hi:Option X):Option D:=
 match x with
 | .val (.string s)=>match gZ env lo 0,gZ env hi s.size with
  | some l,some h=>if 0≤l∧l≤h∧h≤s.size then some (.val (.string (s.extract l.toNat h.toNat)))else none
  | _,_=>none
 | _=>none
def o3(t sz bytes:Nat)(x y:D)(H:U)(vn:Nat):R:=
 match jx sz H y with
 | some (ys,n)=>match x with
  | .eN v g fG off len=>match rowAt H v g with
   | some (t',cs)=>if fG=sz∧t'=t∧(off+len)*sz≤cs.length∧(len+n)*bytes≤140737488355328∧len+n≤9223372036854775807 then
     some (.eN v (g+1) sz 0 (len+n),.obj v (.row t (g+1) ((cs.drop (off*sz)).take (len*sz)++ys)))else none
   | none=>none
  | .emp=>if n=0 then some (.emp,.no)else if n*bytes≤140737488355328∧n≤9223372036854775807 then some (.eN vn 0 sz 0 n,.new (.row t 0 ys))else none
  | _=>none
 | none=>none
def wN(sz:Nat)(x y:D)(H:U):R:=
 match x,jx sz H y with
 | .eN v g fG off len,some (ys,n)=>match rowAt H v g with
  | some (t,cs)=>if fG=sz∧(off+len)*sz≤cs.length then
    some (.val (.int .i64 (min n len:Nat)),.obj v (.row t g (cs.take (off*sz)++ys.take (min n len*sz)++cs.drop (off*sz+min n len*sz))))else none
  | none=>none
 | .emp,some _=>some (.val (.int .i64 0),.no)
 | _,_=>none
def nq(k:uF)(x:D)(H:U):Option D:=
 match k,x with
 | .slice,.sl _ es=>some (.val (.int .i64 es.length))
 | .slice,.emp=>some (.val (.int .i64 0))
 | .slice,.eN _ _ _ _ len=>some (.val (.int .i64 len))
 | .string,.val (.string s)=>some (.val (.int .i64 s.size))
 | .map,.omap v=>match jW H v with
  | some (_,es)=>some (.val (.int .i64 es.length))
  | none=>none
 | _,_=>none
def xE(env:fD)(isMax:Bool)(xs:List X):Option D:=
 match nQ env xs with
 | some [a,b]=>some (.val (.int .i64 (if isMax then max a b else min a b)))
 | some [a,b,c]=>some (.val (.int .i64 (if isMax then max (max a b) c else min (min a b) c)))
 | _=>none
def vN(x:D):Option D:=
 match x with
 | .ptr v g o=>some (.ptr v g o)
 | .eZ cs=>some (.eZ cs)
 | .fn (.func f) a b=>some (.fn (.func f) a b)
 | .gO v=>some (.gO v)
 | _=>none
def DW(k:IntKind)(x:D):Option D:=
 match x with
 | .val (.int _ n)=>some (.val (.int k (k.wrap n)))
 | _=>none
def wI(x:D)(H:U):Option D:=
 match jx 1 H x with
 | some (ys,_)=>match bytesOf ys with
  | some ns=>some (.val (.string (ns.foldl (fun r n=>r.push (UInt8.ofNat n.toNat)) ByteArray.empty)))
  | none=>none
 | none=>none
def lift:Option D→R
 | some d=>some (d,.no)
 | none=>none
def ft(env:fD)(H:U)(n:Nat):gp→R
 | .mv x=>lift (some (ev env x))
 | .pick c a b=>lift (vR (ev env c) (ev env a) (ev env b))
 | .box t x=>pG t (ev env x) n
 | .alloc t z=>some (.ptr n 0 0,.new (.row t 0 z))
 | .build z ps=>lift (wJ env z ps)
 | .buildSl t sz z m ps=>tg env t sz z m ps n
 | .ld1 x=>lift (rn (ev env x) H)
 | .ldN m x=>lift (rp m (ev env x) H)
 | .st1 a x=>wh (ev env a) (ev env x) H
 | .stN m a x=>wi m (ev env a) (ev env x) H
 | .nilck x=>lift (vN (ev env x))
 | .arith op x y=>lift (jy op (ev env x) (ev env y))
 | .eqS ie ls neg x y=>lift (uW ie ls neg (ev env x) (ev env y))
 | .un op x=>lift (Bn op (ev env x))
 | .conv k x=>lift (DW k (ev env x))
 | .b2s x=>lift (wI (ev env x) H)
 | .mkfn f first cap=>lift (some (.fn f (first.map (ev env)) (cap.map (ev env))))
 | .mkmap kk=>some (.omap n,.new (.map kk []))
 | .mksl t sz bytes z l c=>xF t sz bytes z (ev env l) (ev env c) n
 | .slc sz x lo hi=>lift (qD env sz (ev env x) lo hi)
 | .slcS x lo hi=>lift (Gn env (ev env x) lo hi)
 | .fieldA off x=>lift (zj off (ev env x))
 | .field off m ie x=>lift (u5 off m ie (ev env x))
 | .idxA sz x i=>lift (mb sz (ev env x) (ev env i))
 | .idxArr sz m x i=>lift (Ai sz m (ev env x) (ev env i))
 | .idx sz m ie x i=>lift (Fj sz m ie (ev env x) (ev env i))
 | .idxStr x i=>lift (Jc (ev env x) (ev env i))
 | .lookup kk z ok m k=>lift (vI kk z ok (ev env m) (ev env k) H)
 | .mapUpd kk m k x=>ub kk (ev env m) (ev env k) (ev env x) H
 | .ext x i=>lift (Eb (ev env x) i)
 | .call _ _ | .callN _ _ | .callv _ _=>none
 | .app t sz bytes x y=>o3 t sz bytes (ev env x) (ev env y) H n
 | .copy sz x y=>wN sz (ev env x) (ev env y) H
 | .len k x=>lift (nq k (ev env x) H)
 | .minmax isMax xs=>lift (xE env isMax xs)
 | .nilS .. | .capE .. | .appZ .. | .clr .. | .rangeS .. | .nextS .. | .rangeM .. | .nextM .. | .entry .. => none
section
variable{env:fD}{H:U}{al:Al}{d:D}{δ:Dl}{K:ik}
theorem abu{a b c:D}(h:vR a b c=some d)(hk:K d H):AJ a b c H K:=by
 unfold vR at h
 unfold AJ
 (repeat' split at h)<;>simp_all
theorem Wa{x:D}(h:rn x H=some d)(hk:K d H):Ap x H K:=by
 unfold rn at h
 unfold Ap
 (repeat' split at h)<;>simp_all
theorem Wb{n:Nat}{x:D}(h:rp n x H=some d)(hk:K d H):Aq n x H K:=by
 unfold rp at h
 unfold Aq
 (repeat' split at h)<;>simp_all
theorem Ri{z:List D}{ps:List (Nat×Nat×X)}(h:wJ env z ps=some d)(hk:K d H):uL env z ps H K:=by
 unfold wJ at h
 unfold uL
 (repeat' split at h)<;>simp_all
theorem W8{x:D}(h:vN x=some d)(hk:K d H):AF x H K:=by
 unfold vN at h
 unfold AF
 (repeat' split at h)<;>simp_all
theorem ac2{op:UnOp}{x:D}(h:Bn op x=some d)(hk:K d H):Bm op x H K:=by
 unfold Bn at h
 unfold Bm
 (repeat' split at h)<;>simp_all
theorem Sk{b:Bool}{ls:List mi}{neg:Bool}{x y:D}(h:uW b ls neg x y=some d)(hk:K d H):tv b ls neg x y H K:=by
 unfold uW at h
 unfold tv
 (repeat' split at h)<;>simp_all
theorem RU{k:IntKind}{x:D}(h:DW k x=some d)(hk:K d H):y8 k x H K:=by
 unfold DW at h
 unfold y8
 (repeat' split at h)<;>simp_all
theorem Q4{x:D}(h:wI x H=some d)(hk:K d H):yN x H K:=by
 unfold wI at h
 unfold yN
 (repeat' split at h)<;>simp_all
theorem acu{sz:Nat}{x:D}{lo hi:Option X}(h:qD env sz x lo hi=some d)(hk:K d H):A' env sz x lo hi H K:=by
 unfold qD at h
 unfold A'
 (repeat' split at h)<;>simp_all
theorem acs{x:D}{lo hi:Option X}(h:Gn env x lo hi=some d)(hk:K d H):xZ env x lo hi H K:=by
 unfold Gn at h
 unfold xZ
 (repeat' split at h)<;>simp_all
theorem SN{off:Nat}{x:D}(h:zj off x=some d)(hk:K d H):zi off x H K:=by
 unfold zj at h
 unfold zi
 (repeat' split at h)<;>simp_all
theorem MJ{off n:Nat}{b:Bool}{x:D}(h:u5 off n b x=some d)(hk:K d H):u0 off n b x H K:=by
 unfold u5 at h
 unfold u0
 (repeat' split at h)<;>simp_all
theorem Vw{sz:Nat}{x i:D}(h:mb sz x i=some d)(hk:K d H):Ag sz x i H K:=by
 unfold mb at h
 unfold Ag
 (repeat' split at h)<;>simp_all
theorem Vx{sz n:Nat}{x i:D}(h:Ai sz n x i=some d)(hk:K d H):Ah sz n x i H K:=by
 unfold Ai at h
 unfold Ah
 (repeat' split at h)<;>simp_all
theorem Vy{x i:D}(h:Jc x i=some d)(hk:K d H):Ak x i H K:=by
 unfold Jc at h
 unfold Ak
 (repeat' split at h)<;>simp_all
theorem WA{kk:KK}{z:D}{ok:Bool}{m k:D}(h:vI kk z ok m k H=some d)(hk:K d H):Au kk z ok m k H K:=by
 unfold vI at h
 unfold Au
 split at h
 ·split at h
  ·split at h
   ·rename_i hc
    obtain⟨rfl,hc⟩:=hc
    simp only[*,true_and]
    split at h
    ·rename_i heq;cases h;simp only[heq];exact hk
    ·rename_i heq;cases h;simp only[heq];exact hk
   ·cases h
  ·cases h
 ·cases h
theorem Sn{x:D}{i:Nat}(h:Eb x i=some d)(hk:K d H):zh x i H K:=by
 unfold Eb at h
 unfold zh
 (repeat' split at h)<;>simp_all
theorem Wq{k:uF}{x:D}(h:nq k x H=some d)(hk:K d H):Ar k x H K:=by
 unfold nq at h
 unfold Ar
 (repeat' split at h)<;>simp_all
theorem WW{b:Bool}{xs:List X}(h:xE env b xs=some d)(hk:K d H):AA env b xs H K:=by
 unfold xE at h
 unfold AA
 (repeat' split at h)<;>simp_all
theorem QY{op:BinOp}{k:IntKind}{a b:Int}(h:iD op k a b=some d)(hk:K d H):yL op k a b H K:=by
 unfold iD at h
 unfold yL
 (repeat' split at h)<;>simp_all
theorem aco{op:BinOp}{k:IntKind}{a b:Int}(h:Kc op k a b=some d)(hk:K d H):A9 op k a b H K:=by
 unfold Kc at h
 unfold A9
 (repeat' split at h)<;>simp_all
theorem acW{op:BinOp}{a b:ByteArray}(h:ya op a b=some d)(hk:K d H):Gt op a b H K:=by
 unfold ya at h
 unfold Gt
 (repeat' split at h)<;>simp_all [np]
theorem Rf{t:TypeId}{x:D}(h:pG t x al.1=some (d,δ))(hk:K d (δ.app H al)):yR t x al K:=by
 unfold pG at h
 unfold yR
 (repeat' split at h)<;>cases h<;>simp_all [Dl.app]
theorem Rh{t sz:Nat}{z:List D}{m:Nat}{ps:List (Nat×X)}(h:tg env t sz z m ps al.1=some (d,δ))(hk:K d (δ.app H al)):yS env t sz z m ps al K:=by
 unfold tg at h
 unfold yS
 (repeat' split at h)<;>cases h<;>simp_all [Dl.app]
theorem A2{v g:Nat}{x:TypeId×List D}(h:rowAt H v g=some x):H[v]? = some (.row x.1 g x.2):=by
 unfold rowAt at h
 split at h
 ·split at h
  ·rename_i e;subst e;cases h;assumption
  ·cases h
 ·cases h
theorem acP{a x:D}(h:wh a x H=some (d,δ))(hk:K d (δ.app H al)):Bc a x H K:=by
 unfold wh at h
 unfold Bc
 split at h
 ·split at h
  ·rename_i v g o _ t cs fR
   split at h
   ·rename_i hc
    cases h
    simp only[fR]
    refine⟨hc.1,hc.2,?_⟩
    simp only[Dl.app,A2 fR]at hk
    have e:cs.set o x=cs.take o ++ [x]++cs.drop (o + [x].length):=by
     rw[cB,if_pos hc.1];simp
    rw[e]
    exact hk
   ·cases h
  ·cases h
 ·cases h
theorem acQ{n:Nat}{a x:D}(h:wi n a x H=some (d,δ))(hk:K d (δ.app H al)):Bd n a x H K:=by
 unfold wi at h
 unfold Bd
 split at h
 ·split at h
  ·rename_i v g o xs _ _ t cs fR
   split at h
   ·rename_i hc
    cases h
    simp only[*]
    refine⟨trivial,trivial,?_⟩
    simp only[Dl.app,A2 fR]at hk
    rw[hc.1]at hk
    exact hk
   ·cases h
  ·cases h
 ·cases h
theorem WY{t sz bytes:Nat}{z:List D}{l c:D}(h:xF t sz bytes z l c al.1=some (d,δ))(hk:K d (δ.app H al)):AB t sz bytes z l c al K:=by
 unfold xF at h
 unfold AB
 (repeat' split at h)<;>cases h<;>simp_all [Dl.app,np]
theorem WU{kk:KK}{m k x:D}(h:ub kk m k x H=some (d,δ))(hk:K d (δ.app H al)):Aw kk m k x H K:=by
 unfold ub at h
 unfold Aw
 split at h
 ·split at h
  ·split at h
   ·rename_i hc
    obtain⟨rfl,hc⟩:=hc
    cases h
    simp only[*,true_and]
    exact hk
   ·cases h
  ·cases h
 ·cases h
theorem QX{t sz bytes:Nat}{x y:D}(h:o3 t sz bytes x y H al.1=some (d,δ))(hk:K d (δ.app H al)):yK t sz bytes x y H al K:=by
 unfold o3 at h
 unfold yK
 (repeat' split at h)<;>cases h<;>simp_all [Dl.app]
theorem RW{sz:Nat}{x y:D}(h:wN sz x y H=some (d,δ))(hk:K d (δ.app H al)):zb sz x y H K:=by
 unfold wN at h
 unfold zb
 (repeat' split at h)<;>cases h<;>simp_all [Dl.app]
theorem Q7{op:BinOp}{x y:D}(h:jy op x y=some d)(hk:K d H):yQ op x y H K:=by
 unfold jy at h
 unfold yQ
 split at h
 ·split at h
  ·rename_i hs;simp only[hs,if_true];exact aco h hk
  ·rename_i hs
   simp only[hs]
   split at h
   ·rename_i e;exact⟨e,QY h hk⟩
   ·cases h
 ·exact acW h hk
 ·cases h
theorem Vz{sz n:Nat}{b:Bool}{x i:D}(h:Fj sz n b x i=some d)(hk:K d H):Aj sz n b x i H K:=by
 unfold Fj at h
 unfold Aj
 split at h
 ·split at h
  ·rename_i hc;exact⟨hc,MJ h hk⟩
  ·cases h
 ·cases h
theorem kb{o:Option D}(h:lift o=some (d,δ)):o=some d∧δ = .no:=by
 cases o<;>simp[lift]at h
 exact⟨by rw[h.1],h.2.symm⟩
theorem LA{io:gp}(h:ft env H al.1 io=some (d,δ))(hk:K d (δ.app H al)):yJ env H al K io:=by
 cases io<;>simp only[ft]at h<;>simp only[yJ]
 case mv=>obtain⟨h2,rfl⟩:=kb h;cases h2;exact hk
 case mkfn=>obtain⟨h2,rfl⟩:=kb h;cases h2;exact hk
 case alloc=>cases h;exact hk
 case mkmap=>cases h;exact hk
 case call=>cases h
 case callN=>cases h
 case callv=>cases h
 case nilS=>cases h
 case capE=>cases h
 case appZ=>cases h
 case clr=>cases h
 case rangeS=>cases h
 case nextS=>cases h
 case rangeM=>cases h
 case nextM=>cases h
 case entry=>cases h
 case box=>exact Rf h hk
 case buildSl=>exact Rh h hk
 case st1=>exact acP h hk
 case stN=>exact acQ h hk
 case mksl=>exact WY h hk
 case mapUpd=>exact WU h hk
 case app=>exact QX h hk
 case copy=>exact RW h hk
 case pick=>obtain⟨h2,rfl⟩:=kb h;exact abu h2 hk
 case build=>obtain⟨h2,rfl⟩:=kb h;exact Ri h2 hk
 case ld1=>obtain⟨h2,rfl⟩:=kb h;exact Wa h2 hk
 case ldN=>obtain⟨h2,rfl⟩:=kb h;exact Wb h2 hk
 case nilck=>obtain⟨h2,rfl⟩:=kb h;exact W8 h2 hk
 case arith=>obtain⟨h2,rfl⟩:=kb h;exact Q7 h2 hk
 case eqS=>obtain⟨h2,rfl⟩:=kb h;exact Sk h2 hk
 case un=>obtain⟨h2,rfl⟩:=kb h;exact ac2 h2 hk
 case conv=>obtain⟨h2,rfl⟩:=kb h;exact RU h2 hk
 case b2s=>obtain⟨h2,rfl⟩:=kb h;exact Q4 h2 hk
 case slc=>obtain⟨h2,rfl⟩:=kb h;exact acu h2 hk
 case slcS=>obtain⟨h2,rfl⟩:=kb h;exact acs h2 hk
 case fieldA=>obtain⟨h2,rfl⟩:=kb h;exact SN h2 hk
 case field=>obtain⟨h2,rfl⟩:=kb h;exact MJ h2 hk
 case idxA=>obtain⟨h2,rfl⟩:=kb h;exact Vw h2 hk
 case idxArr=>obtain⟨h2,rfl⟩:=kb h;exact Vx h2 hk
 case idx=>obtain⟨h2,rfl⟩:=kb h;exact Vz h2 hk
 case idxStr=>obtain⟨h2,rfl⟩:=kb h;exact Vy h2 hk
 case lookup=>obtain⟨h2,rfl⟩:=kb h;exact WA h2 hk
 case ext=>obtain⟨h2,rfl⟩:=kb h;exact Sn h2 hk
 case len=>obtain⟨h2,rfl⟩:=kb h;exact Wq h2 hk
 case minmax=>obtain⟨h2,rfl⟩:=kb h;exact WW h2 hk
end
end Go.AL
namespace Go.AL
open Go
mutual
def flat:D→Bool
 | .any | .val _ | .emp=>true
 | .agg cs | .tup cs=>se cs
 | .sl _ es=>es.isEmpty
 | _=>false
def se:List D→Bool
 | []=>true
 | d::ds=>flat d&&se ds
end
def chunks(sz:Nat):Nat→List D→List (List D)
 | 0,_=>[]
 | n+1,cs=>cs.take sz::chunks sz n (cs.drop sz)
def eS(ρ:Nat→Option Nat)(H:U):Nat→D→D
 | 0,d=>if closed d then d else .any
 | k+1,d=>if closed d then d else match d with
  | .agg cs=>.agg (cs.map (eS ρ H k))
  | .tup cs=>.tup (cs.map (eS ρ H k))
  | .sl sz es=>.sl sz (es.map (·.map (eS ρ H k)))
  | .eZ cs=>.eZ (cs.map (eS ρ H k))
  | .fn f a b=>.fn f (a.map (eS ρ H k)) (b.map (eS ρ H k))
  | .eN v g sz off len=>match ρ v with
   | some v'=>.eN v' g sz off len
   | none=>match rowAt H v g with
    | some (_,cs)=>if (off+len)*sz≤cs.length then .sl sz (chunks sz len ((cs.drop (off*sz)).map (eS ρ H k)))else .any
    | none=>.any
  | .ptr v g off=>match ρ v with
   | some v'=>.ptr v' g off
   | none=>match rowAt H v g with
    | some (_,cs)=>.eZ ((cs.drop off).map (eS ρ H k))
    | none=>.any
  | .omap v=>match ρ v with
   | some v'=>.omap v'
   | none=>.any
  | .gO v=>match ρ v with
   | some v'=>.gO v'
   | none=>.any
  | d=>d
def lz(ρ:Nat→Option Nat)(H:U):Ob→Ob
 | .row t g cs=>.row t g (cs.map (eS ρ H 40))
 | .map kk es=>.map kk (es.map fun x=>(x.1,eS ρ H 40 x.2))
 | .fZ rf env st=>.fZ rf (env.map fun x=>(x.1,eS ρ H 40 x.2)) st
 | .oX s p=>.oX s p
 | .jt m since seen=>.jt (eS ρ H 40 m) since seen
 | .jL=>.jL
 | .dead=>.dead
 | .hole=>.dead
abbrev kf:=List (Nat×Bool)
def fM(ks:kf)(v:Nat):Option Nat:=ks.findIdx? (fun p=>p.2&&p.1 == v)
def mF(ks:kf)(H:U):U:=ks.map fun p=>if p.2 then(match H[p.1]? with|some o=>lz (fM ks) H o|none=>.dead)else .dead
def gE(n:Nat):D→List Nat
 | .eN v _ _ _ _=>if n≤v then [v]else []
 | .ptr v _ _=>if n≤v then [v]else []
 | .omap v=>if n≤v then [v]else []
 | .gO v=>if n≤v then [v]else []
 | _=>[]
def mc(n:Nat):Ob→List Nat
 | .row _ _ cs=>(cs.map (gE n)).flatten
 | .map _ es=>(es.map fun x=>gE n x.2).flatten
 | _=>[]
def dedup:List Nat→List Nat
 | []=>[]
 | x::r=>if x∈r then dedup r else x::dedup r
def gh(n:Nat)(K:List Nat):kf:=((List.range n).map fun v=>(v,true))++K.map fun v=>(v,true)
def forget(live:List Nat)(env:Env):Env:=live.map fun k=>(k,env.get k)
structure St where
 env:Env
 H:U
 marks:List Nat:=[]
 fL:Bool:=false
 deriving Inhabited
def cut(n:Nat)(live:List Nat)(s:St):St:=
 let env:=forget live s.env
 if s.H.length≤n then{ s with env:=env }else
 let K:=dedup (((env.map fun p=>gE n p.2).flatten++((s.H.take n).map (mc n)).flatten++s.marks.filter (n≤·)).filter (· < s.H.length))
 let ks:=gh n K
 { s with env:=env.map fun p=>(p.1,eS (fM ks) s.H 40 p.2),H:=mF ks s.H,marks:=s.marks.map fun v=>(fM ks v).getD v }
def xN(n:Nat):D→List Nat
 | .eN v _ _ 0 _=>if n≤v then [v]else []
 | .tup ds=>(ds.map fun d=>match d with | .eN v _ _ 0 _=>if n≤v then [v]else []|_=>[]).flatten
 | _=>[]
inductive IR where
 | skip
 | ops (l:List fo)
 | draw (ic:List (Nat×Nat)) (l:List fo)
 | kh (ic:List (Nat×Nat)) (l es:List fo)
 | seq (a b:IR)
 | cond (c:X) (a b:IR)
 | block (id:Nat) (live:List Nat) (a:IR)
 | loop (live:List Nat) (a:IR)
 | kF (rf:Nat) (live:List Nat) (x:X)
 | exit (id:Nat)
 | ret
 | bad
 | fz (S:List Nat) (a:IR)
 | qf (S:List Nat) (a b:List fo)
 deriving Inhabited
inductive qO where
 | tmp (t:Nat)
 | ti (t:Nat)
 | kK (n t:Nat)
 deriving Inhabited
structure eQ where
 ntmps:Nat
 body:IR
 results:List qO
 full:Bool:=false
 own:Nat:=0
 fz:Bool:=false
 deriving Inhabited
def xV(s:St):qO→Option D
 | .tmp t=>some (s.env.get t)
 | .ti t=>rn (s.env.get t) s.H
 | .kK n t=>rp n (s.env.get t) s.H
def pV(s:St):List qO→Option (List D)
 | []=>some []
 | x::r=>match xV s x,pV s r with
  | some d,some l=>some (d::l)
  | _,_=>none
def results(fn:eQ)(s:St):Option D:=match pV s fn.results with
 | some [d]=>some d
 | some ds=>some (.tup ds)
 | none=>none
def pj(args:List D):Env:=args.zipIdx.map fun p=>(p.2,p.1)
def px:List Nat→List D→Env→Env
 | k::ks,d::ds,env=>px ks ds ((k,d)::env)
 | _,_,env=>env
def iM(env:fD):gp→Option (FuncId×List D)
 | .call f args=>some (f,args.map (ev env))
 | .callN f args=>some (f,args.map (ev env))
 | .callv f args=>match ev env f with
  | .fn (.func k) first cap=>some (k,first++args.map (ev env)++cap)
  | _=>none
 | _=>none
def Am:gp→Bool
 | .call _ _ | .callN _ _ | .callv _ _=>true
 | _=>false
def guardOf(env:fD):Option (Nat×Bool)→Option Bool
 | none=>some true
 | some (s,want)=>match env s with
  | .val (.bool b)=>some (b == want)
  | .val (.tuple _)=>some false
  | _=>none
def sI(n:Nat):D→D
 | .eN v g sz off len=>.eN (v+n) g sz off len
 | d=>d
def iO(n:Nat):D→D
 | .eN v g sz off len=>.eN (v+n) g sz off len
 | .tup ds=>.tup (ds.map (sI n))
 | .agg ds=>.agg (ds.map (sI n))
 | d=>d
def lG:Ob→Bool
 | .row _ _ cs=>fm cs
 | _=>false
def mJ:Ob→Bool
 | .row _ _ cs=>se cs
 | _=>false
def sN(p:D→Bool):D→Bool
 | .eN .. => true
 | d=>p d
def ry(p:D→Bool):D→Bool
 | .eN .. => true
 | .tup ds=>ds.all (sN p)
 | .agg ds=>ds.all (sN p)
 | d=>p d
def kE:D→Bool:=ry closed
def mD:D→Bool:=ry flat
def rowsOf(H:U)(v:Nat):Option (TypeId×Nat×List D):=match H[v]? with
 | some (.row t g cs)=>some (t,g,cs)
 | _=>none
def fX(H:U):Nat→D→List Nat
 | 0,_=>[]
 | k+1,d=>if closed d then []else match d with
  | .agg cs | .tup cs | .eZ cs=>(cs.map (fX H k)).flatten
  | .sl _ es=>(es.map fun e=>(e.map (fX H k)).flatten).flatten
  | .fn _ a b=>(a.map (fX H k)).flatten++(b.map (fX H k)).flatten
  | .eN v _ _ _ _ | .ptr v _ _=>v::(match rowsOf H v with
   | some (_,_,cs)=>(cs.map (fX H k)).flatten
   | none=>[])
  | .omap v | .gO v=>[v]
  | _=>[]
def leave(own:Nat)(n:Nat)(H:U)(d:D):D×U:=
 if H.length≤n then(d,H)else
 let K:=dedup (((match own with|0=>[]|1=>xN n d|3=>((fX H 40 d).filter (n≤·)).take 1|_=>(fX H 40 d).filter (n≤·))++((H.take n).map (mc n)).flatten).filter (· < H.length))
 let ks:=gh n K
 (eS (fM ks) H 40 d,mF ks H)
def jT(H:U)(S:List Nat):kf:=(List.range H.length).map fun v=>(v,!(S.contains v))
structure mW where
 params:List Nat
 a:IR
 b:IR
 deriving Inhabited
structure gb where
 fn:FuncId→Option eQ
 round:Nat→Option mW:=fun _=>none
 sort:FuncId→Option Nat:=fun _=>none
 pA:FuncId→Bool:=fun _=>false
def after(s:St)(dst:Option Nat)(args:List D)(r:D)(Hn:U):Option St:=
 if (if fm args then kE r&&Hn.all lG else mD r&&Hn.all mJ)then
  some { s with env:=put s.env dst (iO s.H.length r),H:=s.H++Hn }else none
def jF(S:List Nat)(s:St):St:=
 let ks:=jT s.H S
 { s with env:=s.env.map fun p=>(p.1,eS (fM ks) s.H 40 p.2),H:=mF ks s.H }
end Go.AL
namespace Go.AL
open Go
theorem r7{ds:List D}(h:fm ds=true){i:Nat}{d:D}(hd:ds[i]? = some d):closed d=true:=by
 induction ds generalizing i with
 | nil=>simp at hd
 | cons x xs ih=>
  simp only[fm,ah]at h
  cases i with
  | zero=>simp at hd;subst hd;exact h.1
  | succ i=>exact ih h.2 (by simpa using hd)
theorem RB{es:List (List D)}(h:wL es=true){i:Nat}{e:List D}(he:es[i]? = some e):fm e=true:=by
 induction es generalizing i with
 | nil=>simp at he
 | cons x xs ih=>
  simp only[wL,ah]at h
  cases i with
  | zero=>simp at he;subst he;exact h.1
  | succ i=>exact ih h.2 (by simpa using he)
theorem eP.closed{c c':Ctx}{w:World}(hF:∀ b,c.F b→c'.F b){u:Value}{d:D}(h:eP c w u d)(hc:closed d=true):eP c' w u d:=by
 induction h with
 | any v=>exact .any _
 | val v=>exact .val _
 | agg vs ds hl h1 h ih=>exact .agg vs _ hl h1 fun i v d hv hd=>ih i v d hv hd (r7 hc hd)
 | tup vs ds hl h ih=>exact .tup vs _ hl fun i v d hv hd=>ih i v d hv hd (r7 hc hd)
 | sl a len cap sz es g hlen iE iW gj my mN hr ih=>
  refine .sl a len cap sz _ g hlen iE iW gj my ?_ fun i e j d he hd=>ih i e j d he hd (r7 (RB hc he) hd)
  intro i e j d he hd
  obtain⟨b,o,ha,o7,vh,h1⟩:=mN i e j d he hd
  exact⟨b,o,ha,hF b o7,vh,h1⟩
 | emp=>exact .emp
 | eN=>cases hc
 | kT=>cases hc
 | ptr=>cases hc
 | eZ b o cs g o7 mN hr ih=>exact .eZ b o _ g (hF b o7) mN fun j d hd=>ih j d hd (r7 hc hd)
 | omap=>cases hc
 | fn f fs cs df dc ib gS h1 h2 ow pf=>
  simp only[AL.closed,ah]at hc
  exact .fn f fs cs _ _ ib gS (fun i v d hv hd=>ow i v d hv hd (r7 hc.1 hd)) (fun i v d hv hd=>pf i v d hv hd (r7 hc.2 hd))
 | gO=>cases hc
theorem wS{ds:List D}(h:se ds=true){i:Nat}{d:D}(hd:ds[i]? = some d):flat d=true:=by
 induction ds generalizing i with
 | nil=>simp at hd
 | cons x xs ih=>
  simp only[se,ah]at h
  cases i with
  | zero=>simp at hd;subst hd;exact h.1
  | succ i=>exact ih h.2 (by simpa using hd)
theorem eP.flat{c c':Ctx}{w:World}{u:Value}{d:D}(h:eP c w u d)(hc:flat d=true):eP c' w u d:=by
 induction h with
 | any v=>exact .any _
 | val v=>exact .val _
 | agg vs ds hl h1 h ih=>exact .agg vs _ hl h1 fun i v d hv hd=>ih i v d hv hd (wS hc hd)
 | tup vs ds hl h ih=>exact .tup vs _ hl fun i v d hv hd=>ih i v d hv hd (wS hc hd)
 | sl a len cap sz es g hlen iE iW gj my mN hr ih=>
  simp only[AL.flat,cD]at hc
  subst hc
  exact .sl a len cap sz _ g hlen iE iW (by simp) my (by simp) (by simp)
 | emp=>exact .emp
 | eN=>cases hc
 | kT=>cases hc
 | ptr=>cases hc
 | eZ=>cases hc
 | omap=>cases hc
 | fn=>cases hc
 | gO=>cases hc
theorem LU(sz:Nat):∀ (n:Nat) (cs:List D),(chunks sz n cs).length=n
 | 0,_=>rfl
 | n+1,cs=>by simp[chunks,LU sz n]
theorem G5(sz:Nat):∀ (n:Nat) (cs:List D) (i:Nat) (e:List D),(chunks sz n cs)[i]? = some e→i<n∧e=(cs.drop (i*sz)).take sz
 | 0,_,i,e,h=>by simp[chunks]at h
 | n+1,cs,0,e,h=>by simp[chunks]at h;subst h;simp
 | n+1,cs,i+1,e,h=>by
  simp only[chunks,dj]at h
  obtain⟨h1,h2⟩:=G5 sz n _ i e h
  refine⟨by omega,?_⟩
  rw[h2,dg]
  congr 2
  rw[bg];omega
theorem acr{c:Ctx}{w:World}{b o sz len cap:Nat}{vs:List Value}{ds:List D}(hF:c.F b)(hc:Cells c w vs ds)(hl:ds.length=len*sz)(iE:len≤cap)(iW:cap≤maxLen)
  (hv:∀ (j:Nat) (v:Value),vs[j]? = some v→w.cell? ⟨b,o+j,none⟩=some v):eP c w (.slice (some ⟨b,o,none⟩) len cap) (.sl sz (chunks sz len ds)):=by
 have ia:∀ (i:Nat) (e:List D) (j:Nat) (d:D),(chunks sz len ds)[i]? = some e→e[j]? = some d→ds[i*sz+j]? = some d∧j<sz:=by
  intro i e j d he hd
  obtain⟨_,rfl⟩:=G5 sz len ds i e he
  rw[az]at hd
  split at hd
  ·rename_i hj;rw[aB]at hd;exact⟨hd,hj⟩
  ·cases hd
 refine .sl _ len cap sz _ (fun i j=>vs.getD (i*sz+j) undef) (LU _ _ _) iE iW ?_ (by simp) ?_ ?_
 ·intro e he
  obtain⟨i,hi⟩:=aD.1 he
  obtain⟨h1,rfl⟩:=G5 sz len ds i e hi
  simp only[aT,bn,hl]
  have:(i+1)*sz≤len*sz:=bw _ h1
  rw[bg]at this
  omega
 ·intro i e j d he hd
  obtain⟨h1,_⟩:=ia i e j d he hd
  obtain⟨v,jP,mQ,_⟩:=hc.get h1
  refine⟨b,o,rfl,hF,?_,?_⟩
  ·simp only[List.getD,jP,aS];exact hv _ _ jP
  ·simp only[List.getD,jP,aS];exact mQ
 ·intro i e j d he hd
  obtain⟨h1,_⟩:=ia i e j d he hd
  obtain⟨v,jP,_,vE⟩:=hc.get h1
  simp only[List.getD,jP,aS];exact vE
theorem Cells.map{c c':Ctx}{w:World}{f:D→D}(hr:∀ v d,eP c w v d→eP c' w v (f d)){vs:List Value}{cs:List D}(h:Cells c w vs cs):Cells c' w vs (cs.map f):=
 ⟨by simpa using h.len,h.one,fun i v d hv hd=>by
  simp only[ar,ai]at hd
  obtain⟨d0,jb,rfl⟩:=hd
  exact hr _ _ (h.rep i v d0 hv jb)⟩
def Ctx.eS(c:Ctx)(ks:kf)(H:U):Ctx where
 ι:=fun i g=>match ks[i]? with
  | some p=>c.ι p.1 g
  | none=>none
 F:=fun b=>c.F b∨∃ v L,jB c H v L∧fM ks v=none∧L.ij=false∧L.b=b
 RT:=c.RT
theorem PR{ks:kf}{v i:Nat}(h:fM ks v=some i):ks[i]? = some (v,true):=by
 unfold fM at h
 rw[bY]at h
 obtain⟨hi,hp,_⟩:=h
 simp only[ah,beq_iff_eq]at hp
 rw[List.getElem?_eq_getElem hi]
 congr 1
 exact ef hp.2 hp.1
theorem PQ{ks:kf}{v:Nat}(h:fM ks v=none)(i:Nat):ks[i]?≠some (v,true):=by
 intro hi
 unfold fM at h
 rw[cV]at h
 have:=h _ (aW hi)
 simp at this
section
variable{G:GT}{c:Ctx}{H:U}{w:World}{ks:kf}
theorem yg{v i g:Nat}(h:fM ks v=some i):(c.eS ks H).ι i g=c.ι v g:=by simp[Ctx.eS,PR h]
theorem wD{b:Nat}(h:c.F b):(c.eS ks H).F b:=Or.inl h
theorem Lk{v:Nat}{L:Loc}(h1:jB c H v L)(h2:fM ks v=none)(h3:L.ij=false):(c.eS ks H).F L.b:=Or.inr ⟨v,L,h1,h2,h3,rfl⟩
theorem uj(h:e9 G c H w):∀ (k:Nat) {u:Value} {d:D},eP c w u d→eP (c.eS ks H) w u (eS (fM ks) H k d)
 | 0,u,d,hr=>by
  unfold AL.eS
  split
  ·rename_i hc;exact hr.closed (fun b hb=>wD hb) hc
  ·exact .any _
 | k+1,u,d,hr=>by
  have ih:=fun{u:Value} {d:D} (hr:eP c w u d)=>uj h k hr
  unfold AL.eS
  split
  ·rename_i hc;exact hr.closed (fun b hb=>wD hb) hc
  ·cases hr with
   | any v=>exact .any _
   | val v=>exact .val _
   | agg vs ds hl h1 h2=>
     refine .agg vs _ (by simpa using hl) h1 fun i v d hv hd=>?_
     simp only[ar,ai]at hd
     obtain⟨d0,jb,rfl⟩:=hd
     exact ih (h2 i v d0 hv jb)
   | tup vs ds hl h2=>
     refine .tup vs _ (by simpa using hl) fun i v d hv hd=>?_
     simp only[ar,ai]at hd
     obtain⟨d0,jb,rfl⟩:=hd
     exact ih (h2 i v d0 hv jb)
   | sl a len cap sz es g hlen iE iW gj my mN hr=>
    refine .sl a len cap sz _ g (by simpa using hlen) iE iW ?_ my ?_ ?_
    ·intro e he
     simp only[av]at he
     obtain⟨e0,zC,rfl⟩:=he
     simpa using gj e0 zC
    ·intro i e j d he hd
     simp only[ar,ai]at he
     obtain⟨e0,zC,rfl⟩:=he
     simp only[ar,ai]at hd
     obtain⟨d0,jb,rfl⟩:=hd
     obtain⟨b,o,ha,o7,vh,h1⟩:=mN i e0 j d0 zC jb
     exact⟨b,o,ha,wD o7,vh,h1⟩
    ·intro i e j d he hd
     simp only[ar,ai]at he
     obtain⟨e0,zC,rfl⟩:=he
     simp only[ar,ai]at hd
     obtain⟨d0,jb,rfl⟩:=hd
     exact ih (hr i e0 j d0 zC jb)
   | emp=>exact .emp
   | eN v g sz off len cap L eU hv iE iW jO=>
    dsimp only
    split
    ·rename_i v' jm
     exact .eN v' g sz off len cap L (by rw[yg jm];exact eU) hv iE iW jO
    ·rename_i IE
     split
     ·rename_i t cs fR
      split
      ·rename_i kB
       have sC:=pW fR
       obtain⟨arr,h1,h2,h3,h4⟩:=uo h sC eU hv
       have gQ:=(((h4.drop (off*sz)).map (fun _ _ hr=>ih hr)).take (len*sz))
       have hlen:((cs.drop (off*sz)).map (AL.eS (fM ks) H k)).length=(cs.length-off*sz):=by simp
       have oP:chunks sz len ((cs.drop (off*sz)).map (AL.eS (fM ks) H k))=chunks sz len (((cs.drop (off*sz)).map (AL.eS (fM ks) H k)).take (len*sz)):=by
        have key:∀ (n:Nat) (xs:List D),chunks sz n xs=chunks sz n (xs.take (n*sz)):=by
         intro n
         induction n with
         | zero=>intro xs;rfl
         | succ n ih=>
          intro xs
          simp only[chunks]
          rw[dh,Nat.min_eq_left (by rw[bg];omega),ih (xs.drop sz),List.drop_take,show(n+1)*sz-sz=n*sz by rw[bg];omega]
        exact key _ _
       rw[oP]
       refine acr (Lk ⟨_,sC,rfl,eU⟩ IE hv) gQ ?_ iE iW fun j x hx=>?_
       ·rw[aT,hlen]
        rw[bg]at kB
        omega
       ·rw[az]at hx
        split at hx
        ·rw[aB,az]at hx
         split at hx
         ·rw[aB]at hx
          simp[World.cell?,h1]
          rw[br]
          simpa using hx
         ·cases hx
        ·cases hx
      ·exact .any _
     ·exact .any _
   | kT v g sz off L eU a=>
    dsimp only
    split
    ·rename_i v' jm
     exact .kT v' g sz off L (by rw[yg jm];exact eU) a
    ·split
     ·split
      ·exact .sl a 0 0 sz _ (fun _ _=>undef) rfl (Nat.le_refl _) (by unfold maxLen;omega) (by simp[chunks]) (fun _=>rfl) (by simp[chunks]) (by simp[chunks])
      ·exact .any _
     ·exact .any _
   | ptr v g off L eU hv=>
    dsimp only
    split
    ·rename_i v' jm
     exact .ptr v' g off L (by rw[yg jm];exact eU) hv
    ·rename_i IE
     split
     ·rename_i t cs fR
      have sC:=pW fR
      obtain⟨arr,h1,h2,h3,h4⟩:=uo h sC eU hv
      refine HG (Lk ⟨_,sC,rfl,eU⟩ IE hv) ⟨_,(h4.drop off).map (fun _ _ hr=>ih hr),fun j x hx=>?_⟩
      rw[aB,az]at hx
      split at hx
      ·rw[aB]at hx
       simp[World.cell?,h1]
       rw[br]
       simpa using hx
      ·cases hx
     ·exact .any _
   | eZ b o cs g o7 mN hr=>
    refine .eZ b o _ g (wD o7) ?_ ?_
    ·intro j d hd
     simp only[ar,ai]at hd
     obtain⟨d0,jb,rfl⟩:=hd
     exact mN j d0 jb
    ·intro j d hd
     simp only[ar,ai]at hd
     obtain⟨d0,jb,rfl⟩:=hd
     exact ih (hr j d0 jb)
   | omap v L eU hv=>
    dsimp only
    split
    ·rename_i v' jm;exact .omap v' L (by rw[yg jm];exact eU) hv
    ·exact .any _
   | fn f fs cs df dc ib gS h1 h2=>
    refine .fn f fs cs _ _ (by simpa using ib) (by simpa using gS) ?_ ?_
    ·intro i v d hv hd
     simp only[ar,ai]at hd
     obtain⟨d0,jb,rfl⟩:=hd
     exact ih (h1 i v d0 hv jb)
    ·intro i v d hv hd
     simp only[ar,ai]at hd
     obtain⟨d0,jb,rfl⟩:=hd
     exact ih (h2 i v d0 hv jb)
   | gO v L eU hv=>
    dsimp only
    split
    ·rename_i v' jm;exact .gO v' L (by rw[yg jm];exact eU) hv
    ·exact .any _
end
end Go.AL
namespace Go.AL
open Go
section
variable{G:GT}{c:Ctx}{H:U}{w:World}{ks:kf}
def uE(ks:kf):Prop:=∀ (i j:Nat) (p q:Nat×Bool),ks[i]? = some p→ks[j]? = some q→p.1=q.1→i=j
theorem J8{i:Nat}{o:Ob}(h:(mF ks H)[i]? = some o)(ha:o≠.dead):∃ v o0,ks[i]? = some (v,true)∧H[v]? = some o0∧o=lz (fM ks) H o0:=by
 unfold mF at h
 simp only[ar,ai]at h
 obtain⟨p,hp,he⟩:=h
 split at he
 ·rename_i hb
  split at he
  ·rename_i o0 NK
   exact⟨p.1,o0,by rw[hp,← hb],NK,he.symm⟩
  ·exact absurd he.symm ha
 ·exact absurd he.symm ha
theorem Qe{o:Ob}(h:(lz (fM ks) H o).alive=true):o.alive=true∧(lz (fM ks) H o).gen=o.gen:=by
 cases o<;>simp_all [lz,Ob.alive,Ob.gen]
theorem J1{v i:Nat}(hk:uE ks)(h:ks[i]? = some (v,true)):fM ks v=some i:=by
 cases hr:fM ks v with
 | none=>exact absurd h (PQ hr i)
 | some j=>
  have:=PR hr
  rw[hk i j _ _ h this rfl]
theorem Fx{i:Nat}{L:Loc}(h:jB (c.eS ks H) (mF ks H) i L):∃ v,ks[i]? = some (v,true)∧jB c H v L:=by
 obtain⟨o,ho,ha,eU⟩:=h
 obtain⟨v,o0,h1,h2,rfl⟩:=J8 ho (by intro e;subst e;cases ha)
 obtain⟨a1,a2⟩:=Qe ha
 refine⟨v,h1,o0,h2,a1,?_⟩
 rw[a2]at eU
 simpa[Ctx.eS,h1]using eU
theorem Pv{b:Nat}(h:jS (c.eS ks H) (mF ks H) b):jS c H b:=by
 obtain⟨i,L,hl,hv,e⟩:=h
 obtain⟨v,_,h2⟩:=Fx hl
 exact⟨v,L,h2,hv,e⟩
theorem xX(h:e9 G c H w)(hk:uE ks):e9 G (c.eS ks H) (mF ks H) w where
 inj i j L L' h1 h2 h3 h4 he:=by
  obtain⟨v,k1,l1⟩:=Fx h1
  obtain⟨v',k2,l2⟩:=Fx h2
  have:=h.inj v v' L L' l1 l2 h3 h4 he
  subst this
  exact hk i j _ _ k1 k2 rfl
 lt b hb:=h.lt b (Pv hb)
 nF b hb hF:=by
  obtain⟨i,L,hl,hv,e⟩:=hb
  obtain⟨v,k1,l1⟩:=Fx hl
  rcases hF with hF|⟨v',L',l2,hn,jm,e'⟩
  ·exact h.nF b ⟨v,L,l1,hv,e⟩ hF
  ·have:=h.inj v v' L L' l1 l2 hv jm (e.trans e'.symm)
   subst this
   exact PQ hn i k1
 iQ b hb:=by
  rcases hb with hb|⟨v,L,l,_,hv,e⟩
  ·exact h.iQ b hb
  ·exact h.lt b ⟨v,L,l,hv,e⟩
 out i k hi:=by
  simp only[mF,List.length_map]at hi
  simp[Ctx.eS,aG hi]
 jU i o k ho gX:=by
  have fY:o≠.dead:=by
   rintro rfl
   rcases gX with gX|⟨gX,_⟩<;>cases gX
  obtain⟨v,o0,h1,h2,rfl⟩:=J8 ho fY
  rcases gX with gX|⟨ha,hg⟩
  ·cases o0<;>simp[lz]at gX
  ·obtain⟨a1,a2⟩:=Qe ha
   have:=h.jU v o0 k h2 (.inr ⟨a1,by rw[← a2];exact hg⟩)
   simpa[Ctx.eS,h1]using this
 ob i o ho:=by
  by_cases fY:o = .dead
  ·subst fY;simp[fJ]
  ·obtain⟨v,o0,h1,h2,rfl⟩:=J8 ho fY
   have h0:=h.ob v o0 h2
   have eU:(c.eS ks H).ι i o0.gen=c.ι v o0.gen:=by simp[Ctx.eS,h1]
   have hr:∀ u d,eP c w u d→eP (c.eS ks H) w u (eS (fM ks) H 40 d):=fun u d hd=>uj h 40 hd
   cases o0 with
   | dead=>simp[lz,fJ]
   | hole=>simp[lz,fJ]
   | row t g cs=>
    simp only[lz,Ob.gen]at eU ⊢
    rw[eU]
    simp only[Ob.gen]at h0
    cases hL:c.ι v g with
    | none=>rw[hL]at h0;simp[fJ]at h0
    | some L=>
     rw[hL]at h0
     simp only[fJ]at h0 ⊢
     split
     ·rename_i hv;simp only[hv,if_true]at h0;simp[h0]
     ·rename_i hv
      simp only[hv]at h0
      obtain⟨arr,a1,a2,a3,a4⟩:=h0
      refine⟨arr,a1,a2,by simpa using a3,fun j d hd=>?_⟩
      simp only[ar,ai]at hd
      obtain⟨d0,jb,rfl⟩:=hd
      obtain⟨x,ni,kj,sD⟩:=a4 j d0 jb
      exact⟨x,ni,kj,hr _ _ sD⟩
   | map kk es=>
    simp only[lz,Ob.gen]at eU ⊢
    rw[eU]
    simp only[Ob.gen]at h0
    cases hL:c.ι v 0 with
    | none=>rw[hL]at h0;simp[fJ]at h0
    | some L=>
     rw[hL]at h0
     simp only[fJ]at h0 ⊢
     obtain⟨hv,jc,arr,clock,a1,a2,a3,a4⟩:=h0
     refine⟨hv,fun x hx=>?_,arr,clock,a1,by simpa using a2,fun j e x he hx=>?_,by simpa using a4⟩
     ·obtain⟨y,hy,rfl⟩:=av.1 hx
      exact jc y hy
     ·simp only[ar,ai]at hx
      obtain⟨y,hy,rfl⟩:=hx
      obtain⟨p,q,r⟩:=a3 j e y he hy
      exact⟨p,hr _ _ q,r⟩
   | fZ rf env st=>
    simp only[lz,Ob.gen]at eU ⊢
    rw[eU]
    simp only[Ob.gen]at h0
    cases hL:c.ι v 0 with
    | none=>rw[hL]at h0;simp[fJ]at h0
    | some L=>
     rw[hL]at h0
     simp only[fJ]at h0 ⊢
     obtain⟨hv,r,a1,a2,a3,a4⟩:=h0
     refine⟨hv,r,a1,fun k=>?_,a3,a4⟩
     have key:∀ (env:Env) (k:Nat),(Env.get (env.map fun x=>(x.1,eS (fM ks) H 40 x.2)) k)=eS (fM ks) H 40 (env.get k):=by
      intro env k
      induction env with
      | nil=>rfl
      | cons p r ih=>
       obtain⟨j,d⟩:=p
       simp only[List.map_cons,Env.qX]
       split
       ·rfl
       ·exact ih
     rw[key]
     exact hr _ _ (a2 k)
   | oX s p=>
    simp only[lz,Ob.gen]at eU ⊢
    rw[eU]
    simp only[Ob.gen]at h0
    cases hL:c.ι v 0 with
    | none=>rw[hL]at h0;simp[fJ]at h0
    | some L=>
     rw[hL]at h0
     simpa only[fJ]using h0
   | jt m since seen=>
    simp only[lz,Ob.gen]at eU ⊢
    rw[eU]
    simp only[Ob.gen]at h0
    cases hL:c.ι v 0 with
    | none=>rw[hL]at h0;simp[fJ]at h0
    | some L=>
     rw[hL]at h0
     simp only[fJ]at h0 ⊢
     obtain⟨a1,a2,bm,a3,a4⟩:=h0
     exact⟨a1,a2,bm,hr _ _ a3,a4⟩
   | jL=>
    simp only[lz,Ob.gen]at eU ⊢
    rw[eU]
    simp only[Ob.gen]at h0
    cases hL:c.ι v 0 with
    | none=>rw[hL]at h0;simp[fJ]at h0
    | some L=>
     rw[hL]at h0
     simpa only[fJ]using h0
 gl g cs hg:=by
  obtain⟨h1,h2⟩:=h.gl g cs hg
  exact⟨h1,h2.closed (fun b hb=>wD hb) (by simpa[AL.closed]using h1)⟩
 rt:=h.rt
theorem Kb(h:e9 G c H w){n:Nat}(hn:∀ v,v<n→(ks[v]?).map (·.1)=some v):Step n c H w (c.eS ks H) (mF ks H) w where
 os:=⟨rfl,Nat.le_refl _⟩
 tape:=rfl
 output:=rfl
 size:=Nat.le_refl _
 RT:=rfl
 Fm b hb:=wD hb
 Fn b hb:=by
  rcases hb with hb|⟨v,L,l,_,hv,e⟩
  ·exact .inl hb
  ·exact .inr (.inr ⟨v,L,l,hv,e⟩)
 kept _ _ _:=rfl
 old v k L hv eU:=by
  have:=hn v hv
  simp only[ai]at this
  obtain⟨p,hp,e⟩:=this
  simp only[Ctx.eS,hp,e]
  exact eU
 own b hb:=.inr (Pv hb)
theorem Tb(env:Env)(k:Nat):(Env.get (env.map fun x=>(x.1,eS (fM ks) H 40 x.2)) k)=eS (fM ks) H 40 (env.get k):=by
 induction env with
 | nil=>rfl
 | cons p r ih=>
  obtain⟨j,d⟩:=p
  simp only[List.map_cons,Env.qX]
  split
  ·rfl
  ·exact ih
theorem My(h:e9 G c H w){env:Env}{a:Act}(he:jh c w env.get a):jh (c.eS ks H) w (Env.get (env.map fun x=>(x.1,eS (fM ks) H 40 x.2))) a:=fun k=>by
 rw[Tb]
 exact uj h 40 (he k)
theorem S2(live:List Nat)(env:Env)(k:Nat):(forget live env).get k = .any∨(forget live env).get k=env.get k:=by
 unfold forget
 induction live with
 | nil=>exact .inl rfl
 | cons x r ih=>
  simp only[List.map_cons,Env.qX]
  split
  ·rename_i e;subst e;exact .inr rfl
  ·exact ih
theorem wO{env:Env}{a:Act}(he:jh c w env.get a)(live:List Nat):jh c w (forget live env).get a:=fun k=>by
 rcases S2 live env k with h|h<;>rw[h]
 ·exact .any _
 ·exact he k
theorem Az{x:Nat}:∀ {l:List Nat},x∈dedup l→x∈l
 | [],h=>h
 | y::r,h=>by
  unfold dedup at h
  split at h
  ·exact aU _ (Az h)
  ·rcases au.1 h with rfl|h
   ·exact cu
   ·exact aU _ (Az h)
theorem zc{x:Nat}:∀ {l:List Nat},x∈l→x∈dedup l
 | y::r,h=>by
  unfold dedup
  split
  ·rename_i hy
   rcases au.1 h with rfl|h
   ·exact zc hy
   ·exact zc h
  ·rcases au.1 h with rfl|h
   ·exact cu
   ·exact aU _ (zc h)
theorem FO:∀ (l:List Nat),(dedup l).Nodup
 | []=>List.nodup_nil
 | y::r=>by
  unfold dedup
  split
  ·exact FO r
  ·rename_i hn
   exact ey.2 ⟨fun h=>hn (Az h),FO r⟩
theorem Oi(h:(ks.map (·.1)).Nodup):uE ks:=by
 intro i j p q hp hq e
 have hi:(ks.map (·.1))[i]? = some p.1:=by simp[hp]
 have hj:(ks.map (·.1))[j]? = some q.1:=by simp[hq]
 have pL:=(ae.1 hi).1
 have l7:=(ae.1 hj).1
 rw[List.getElem?_eq_getElem pL]at hi
 rw[List.getElem?_eq_getElem l7]at hj
 simp only[aq]at hi hj
 exact(List.getElem_inj h).1 (by rw[hi,hj,e])
theorem Om{n:Nat}{K:List Nat}(hK:∀ v∈K,n≤v)(hd:K.Nodup):uE (gh n K):=by
 apply Oi
 unfold gh
 simp only[List.map_append,cd,dT,List.map_id']
 rw[a7]
 refine⟨List.nodup_range,hd,fun a ha b hb e=>?_⟩
 subst e
 have:=hK a hb
 simp at ha
 omega
theorem Ol{n:Nat}{K:List Nat}(v:Nat)(hv:v<n):((gh n K)[v]?).map (·.1)=some v:=by
 unfold gh
 rw[ag (by simpa using hv)]
 simp[hv]
theorem M0{S:List Nat}:uE (jT H S):=by
 apply Oi
 unfold jT
 simp only[cd,dT,List.map_id']
 exact List.nodup_range
theorem MZ{S:List Nat}(v:Nat)(hv:v<H.length):((jT H S)[v]?).map (·.1)=some v:=by
 unfold jT
 simp[hv]
theorem HH{S:List Nat}:(mF (jT H S) H).length=H.length:=by simp[mF,jT]
end
end Go.AL
namespace Go.AL
open Go
def DV:Operand→Bool
 | .const (.slice none 0 0)=>true
 | _=>false
def x4(P:Program)(t:TypeId):Bool:=match P.underlying t with
 | some (.slice _)=>true
 | _=>false
def oJ(P:Program)(G:GT)(o:Oper):Option gp:=
 match o.op with
 | .binOp .eql t x y _=>if x4 P t=true∧DV y=true then(cX G x).map (.nilS false)else none
 | .binOp .neq t x y _=>if x4 P t=true∧DV y=true then(cX G x).map (.nilS true)else none
 | .range t x=>match P.underlying t,cX G x with
  | some .string,some a=>some (.rangeS a)
  | some (.map _ _),some a=>some (.rangeM a)
  | _,_=>none
 | .next x true=>(cX G x).map .nextS
 | .next x false=>(cX G x).map .nextM
 | .entry x=>(cX G x).map .entry
 | .call c=>match c.callee,c.argTypes.toList,c.args.toList with
  | .builtin .cap,[t],[x]=>if x4 P t then(cX G x).map .capE else none
  | .builtin .clear,[t],[x]=>match P.underlying t with
   | some (.slice e)=>match nC P e,P.info? e,cX G x with
    | some z,some i,some a=>if z.length=i.size∧0<i.size then some (.clr i.size z a)else none
    | _,_,_=>none
   | _=>none
  | .builtin .append,[t,u],[x,y]=>match P.underlying t,P.underlying u with
   | some (.slice e),some (.int .i64)=>match nC P e,P.info? e,cX G x,cX G y with
    | some z,some i,some a,some b=>if z.length=i.size∧0<i.size then some (.appZ e i.size i.bytes z a b)else none
    | _,_,_,_=>none
   | _,_=>none
  | _,_,_=>none
 | _=>none
def FN(neg:Bool):D→Option D
 | .emp=>some (.b !neg)
 | .sl _ (_::_)=>some (.b neg)
 | .eN _ _ _ _ (_+1)=>some (.b neg)
 | _=>none
def DA(t sz bytes:Nat)(z:List D)(x n:D)(vn:Nat):R:=
 match x,n with
 | .emp,.val (.int .i64 m)=>if 0<m∧np (m*bytes) 140737488355328∧np m 9223372036854775807 then some (.eN vn 0 sz 0 m.toNat,.new (.row t 0 (List.replicate m.toNat z).flatten))else none
 | _,_=>none
def y4(sz:Nat)(z:List D)(x:D)(H:U):R:=
 match x with
 | .emp=>some (.any,.no)
 | .eN v g fG off len=>match rowAt H v g with
  | some (t,cs)=>if fG=sz∧(off+len)*sz≤cs.length then some (.any,.obj v (.row t g (cs.take (off*sz)++(List.replicate len z).flatten++cs.drop ((off+len)*sz))))else none
  | none=>none
 | _=>none
def JL(x:D)(H:U):R:=
 match x with
 | .ptr v 0 0=>match H[v]? with
  | some (.oX s p)=>if p<s.size then some (.tup [.b true,.i p,.val (.int .i32 (Utf8.decode s p).1)],.obj v (.oX s (p+(Utf8.decode s p).2)))else some (.tup [.b false],.no)
  | _=>none
 | _=>none
def AR(x:D)(H:U)(vn:Nat):R:=
 match x with
 | .omap m=>match jW H m with
  | some (_,es)=>some (.ptr vn 0 0,.new (.jt (.omap m) es.length []))
  | none=>none
 | _=>none
def D8(x:D)(H:U):Option D:=
 match x with
 | .ptr v 0 0=>match H[v]? with
  | some (.jt (.omap m) since seen)=>match jW H m,seen.getLast? with
   | some (_,es),some i=>match es[i]? with
    | some (k,d)=>if es.length=since then some (.tup [.val k,d])else none
    | none=>none
   | _,_=>none
  | _=>none
 | _=>none
def kG(env:fD)(H:U)(n:Nat):gp→R
 | .nilS neg x=>lift (FN neg (ev env x))
 | .capE x=>match ev env x with
  | .emp=>some (.i 0,.no)
  | _=>none
 | .appZ t sz bytes z x m=>DA t sz bytes z (ev env x) (ev env m) n
 | .clr sz z x=>y4 sz z (ev env x) H
 | .rangeS x=>match ev env x with
  | .val (.string s)=>some (.ptr n 0 0,.new (.oX s 0))
  | _=>none
 | .nextS x=>JL (ev env x) H
 | .rangeM x=>AR (ev env x) H n
 | .entry x=>lift (D8 (ev env x) H)
 | _=>none
def Gr:gp→Bool
 | .nilS .. | .capE .. | .appZ .. | .clr .. | .rangeS .. | .nextS .. | .rangeM .. | .nextM .. | .entry .. => true
 | _=>false
theorem acM{op:gp}(h:Gr op=true)(f:fD)(H:U)(n:Nat):ft f H n op=none:=by
 cases op<;>first|(cases h;done)|rfl
theorem acN{op:gp}(h:Gr op=true)(f:fD):iM f op=none:=by
 cases op<;>first|(cases h;done)|rfl
theorem He{P:Program}{G:GT}{o:Oper}{io:gp}(h:oJ P G o=some io):Gr io=true:=by
 unfold oJ at h
 repeat' split at h
 all_goals first|(cases h;done)|(simp only[ai]at h;obtain⟨_,_,rfl⟩:=h;rfl)|(cases h;rfl)
section
variable{P:Program}{G:GT}{c:Ctx}{H:U}{w:World}{env:fD}{a:Act}
abbrev KO(H:U)(al:Al)(d:D)(δ:Dl):ik:=fun d' H'=>d'=d∧H'=δ.app H al
theorem FK(h:e9 G c H w){al:Al}(fO:kH H al)(o:Obj)(ob:Ob)(hg:ob.gen=0)(ha:ob.alive=true)
  (ga:(∀ u d,eP c w u d→eP (c.set al.1 0 ⟨w.heap.size,0,0,false⟩) (w.alloc o) u d)→(w.alloc o).heap[w.heap.size]? = some o→fJ (c.set al.1 0 ⟨w.heap.size,0,0,false⟩) (w.alloc o) (some ⟨w.heap.size,0,0,false⟩) ob) :
  e9 G (c.set al.1 0 ⟨w.heap.size,0,0,false⟩) (al.2 ob) (w.alloc o)∧eP (c.set al.1 0 ⟨w.heap.size,0,0,false⟩) (w.alloc o) (.pointer (some ⟨w.heap.size,0,none⟩)) (.ptr al.1 0 0) ∧
   Step H.length c H w (c.set al.1 0 ⟨w.heap.size,0,0,false⟩) (al.2 ob) (w.alloc o):=by
 have hL:(⟨w.heap.size,0,0,false⟩:Loc).ij=false→w.heap.size≤(⟨w.heap.size,0,0,false⟩:Loc).b∧(⟨w.heap.size,0,0,false⟩:Loc).b<(w.alloc o).heap.size:=fun _=>⟨Nat.le_refl _,by simp⟩
 have ht:=(fO ob).pX
 have hs:=Gx h ht (iC.alloc w o) ⟨w.heap.size,0,0,false⟩ hL
 rw[hg]at hs
 have h1:=Kl h ht (iC.alloc w o) ⟨w.heap.size,0,0,false⟩ hL ha (by rw[hg];exact ga (fun u d hd=>hd.nA h.toHeapOK hs) (heap_alloc_new w o))
 rw[hg]at h1
 exact⟨h1,.ptr (c:=c.set al.1 0 ⟨w.heap.size,0,0,false⟩) al.1 0 0 ⟨w.heap.size,0,0,false⟩ (Ctx.py _ _ _ _) rfl,hs⟩
theorem Pm(h:e9 G c H w){t:TypeId}(ht:x4 P t=true){neg:Bool}{x d:D}{u:Value}(hr:eP c w u x)(ho:FN neg x=some d)(xo yo:Operand) :
  ∃ r,(do eqGuard (if neg then .neq else .eql) t xo yo u (.slice none 0 0);binOp (if neg then .neq else .eql) t u (.slice none 0 0)).run P w = .ok r w∧eP c w r d:=by
 have I2:∃ e,P.underlying t=some (.slice e):=by
  unfold x4 at ht
  split at ht
  ·exact⟨_,by assumption⟩
  ·cases ht
 obtain⟨e,hu⟩:=I2
 have heq:∀ (n:Nat) (ad:Option Addr) (len cap:Nat),(Op.equalIn (n+1) t (.slice ad len cap) (.slice none 0 0)).run P w = .ok ad.isNone w:=by
  intro n ad len cap
  cases ad<;>simp[Op.equalIn,run_underlying hu]
 have gf:∀ ad len cap,Op.equal t (.slice ad len cap) (.slice none 0 0)=Op.equalIn (9999+1) t (.slice ad len cap) (.slice none 0 0):=fun _ _ _=>rfl
 have key:∀ (ad:Option Addr) (len cap:Nat),u = .slice ad len cap→(do eqGuard (if neg then .neq else .eql) t xo yo u (.slice none 0 0);binOp (if neg then .neq else .eql) t u (.slice none 0 0)).run P w = .ok (.bool (if neg then !ad.isNone else ad.isNone)) w:=by
  rintro ad len cap rfl
  have h1:=heq 9999 ad len cap
  cases neg<;>simp only[eqGuard,binOp,gf,bF,if_false,if_true,Sem.run_bind,Bool.not_true,Sem.run_pure,Result.andThen_ok,h1]
 unfold FN at ho
 split at ho
 ·cases ho
  cases hr
  exact⟨_,key none 0 0 rfl,by cases neg<;>exact .val _⟩
 ·cases ho
  cases hr with
  | sl ad len cap sz es g hlen iE iW gj my hc IV=>
   have:ad≠none:=fun e=>by have:=my e;simp at hlen;omega
   obtain⟨q,rfl⟩:=Option.ne_none_iff_exists'.1 this
   exact⟨_,key _ _ _ rfl,by cases neg<;>exact .val _⟩
 ·cases ho
  cases hr with
  | eN _ _ _ _ _ cap L eU hv iE iW jO=>exact⟨_,key _ _ _ rfl,by cases neg<;>exact .val _⟩
 ·cases ho
theorem aaV(h:e9 G c H w){v g o:Nat}{t':TypeId}{cs xs:List D}(hv:H[v]? = some (.row t' g cs)){L:Loc}(eU:c.ι v g=some L)(gg:L.ij=false){vs:List Value}(hx:Cells c w vs xs)
  (kB:o+xs.length≤cs.length):∃ w',(storeCells ⟨L.b,L.base+o,none⟩ vs).run P w = .ok () w'∧e9 G c (H.set v (.row t' g (cs.take o++xs++cs.drop (o+xs.length)))) w'∧Step H.length c H w c (H.set v (.row t' g (cs.take o++xs++cs.drop (o+xs.length)))) w':=by
 obtain⟨arr,h1,h2,h3,h4⟩:=uo h hv eU gg
 have qq:vs.length=xs.length:=hx.len
 have eX:=run_storeCells_at P L.b (L.base+o) t' vs 0 arr w h1 (by simp;omega) hx.one
 simp only[bQ]at eX
 have hw:=Br h hv eU gg h1 (arr.toList.take (L.base+o)++vs++arr.toList.drop (L.base+o+vs.length)).toArray
  (by simp;omega) h2 (cs.take o++xs++cs.drop (o+xs.length)) (by simp;omega) (fun i d hd=>by
   have E':=h4.oC hx o
   obtain⟨y,hy,h5,h6⟩:=E'.get hd
   refine⟨y,?_,h5,h6⟩
   rw[← hy]
   simp only[cO]
   have ib:(List.take (L.base+o) arr.toList).length=L.base+o:=by simp;omega
   have gS:(List.take o (List.take cs.length (List.drop L.base arr.toList))).length=o:=by simp;omega
   by_cases c1:i<o
   ·rw[ag (by simp;omega),ag (by rw[ib];omega),ag (by simp;omega),ag (by rw[gS];omega)]
    simp only[az,aB]
    rw[if_pos (by omega),if_pos c1,if_pos (by omega)]
   ·by_cases c2:i<o+xs.length
    ·rw[ag (by simp;omega),ak (by rw[ib];omega),ag (by simp;omega),ak (by rw[gS];omega),ib,gS]
     congr 1
     omega
    ·have l6:i<cs.length:=by have:=(ae.1 hd).1;simp at this;omega
     rw[ak (by simp;omega),ak (by simp;omega)]
     simp only[aB,az,ay,ib,gS,qq]
     rw[if_pos (by omega)]
     congr 1
     omega)
 exact⟨_,eX,hw.1,hw.2⟩
theorem aaW(h:e9 G c H w){al:Al}{t e ty:TypeId}{i:TypeInfo}{z:List D}(hu:P.underlying t=some (.slice e))(hi:P.info? e=some i)(hz:nC P e=some z)(xx:z.length=i.size)(jd:0<i.size)
  {x d:D} {δ:Dl} {u:Value} (hr:eP c w u x) (ho:y4 i.size z x H=some (d,δ)):∃ w',(Builtin.clear_ #[t] ty #[u]).run P w = .ok (.tuple #[]) w'∧gU G c H w (KO H al d δ) (.tuple #[]) w':=by
 unfold y4 at ho
 split at ho
 ·cases ho
  cases hr
  exact⟨w,by simp[Builtin.clear_,run_underlying hu],_,_,c,⟨rfl,rfl⟩,h,.any _,Step.refl _ _ _ _⟩
 ·rename_i v g fG off len
  split at ho
  ·rename_i t' cs fR
   split at ho
   ·rename_i hJ
    obtain⟨rfl,kB⟩:=hJ
    cases ho
    have hv:=pW fR
    dsimp only at hv
    obtain⟨zv,sE,Fh,pe⟩:=uu hz w
    have rk:zv.cells.size=i.size:=by have:=(pe c w).len;simp at this;omega
    have EE:(Dl.obj v (.row t' g (cs.take (off*i.size)++(List.replicate len z).flatten++cs.drop ((off+len)*i.size)))).app H al=H.set v (.row t' g (cs.take (off*i.size)++(List.replicate len z).flatten++cs.drop ((off+len)*i.size))):=rfl
    have pa:(List.replicate len z).flatten.length=len*i.size:=by simp[xx]
    have E7:(.row t' g (cs.take (off*i.size)++(List.replicate 0 z).flatten++cs.drop ((off+0)*i.size)))=Ob.row t' g cs:=by simp
    have nO:H.set v (.row t' g cs)=H:=by
     have fj:=(ae.1 hv).1
     have ia:=(ae.1 hv).2
     rw[← ia];exact List.set_getElem_self fj
    cases hr with
    | eN _ _ _ _ _ cap L eU gg iE iW jO=>
     by_cases hn:len=0
     ·subst hn
      refine⟨w,by simp[Builtin.clear_,run_underlying hu],_,_,c,⟨rfl,rfl⟩,?_,.any _,?_⟩
      ·rw[EE,E7,nO];exact h
      ·rw[EE,E7,nO];exact Step.refl _ _ _ _
     ·have mZ:Cells c w (Builtin.zeroCells zv.cells len).toList (List.replicate len z).flatten:=by
       have h1:(Builtin.zeroCells zv.cells len).toList=(List.replicate len zv.cells.toList).flatten:=by
        unfold Builtin.zeroCells
        exact FY zv.cells len (by omega)
       rw[h1]
       exact Ej _ _ pe len
      obtain⟨w',k1,k2,k3⟩:=aaV (P:=P) (o:=off*i.size) h hv eU gg mZ (by rw[pa,← bg];exact kB)
      rw[pa,← bg]at k2 k3
      refine⟨w',?_,_,_,c,⟨rfl,rfl⟩,k2,.any _,k3⟩
      obtain⟨ai7,rfl⟩:=Nat.exists_eq_succ_of_ne_zero hn
      simp[Builtin.clear_,run_underlying hu,sE,k1]
    | kT _ _ _ _ L eU ad=>
     refine⟨w,by cases ad<;>simp[Builtin.clear_,run_underlying hu],_,_,c,⟨rfl,rfl⟩,?_,.any _,?_⟩
     ·rw[EE,E7,nO];exact h
     ·rw[EE,E7,nO];exact Step.refl _ _ _ _
   ·cases ho
  ·cases ho
 ·cases ho
theorem aaO(h:e9 G c H w){al:Al}(fO:kH H al){t u ty e:TypeId}{i:TypeInfo}{z:List D}(ht:P.underlying t=some (.slice e))(hu:P.underlying u=some (.int .i64))(hi:P.info? e=some i)(hz:nC P e=some z)(xx:z.length=i.size)(jd:0<i.size)
  {x y d:D} {δ:Dl} {ux uy:Value} (h1:eP c w ux x) (h2:eP c w uy y) (ho:DA e i.size i.bytes z x y al.1=some (d,δ)) :
  ∃ r w',(Builtin.append_ #[t,u] ty #[ux,uy]).run P w = .ok r w'∧gU G c H w (KO H al d δ) r w':=by
 unfold DA at ho
 split at ho
 ·rename_i m
  split at ho
  ·rename_i hJ
   cases ho
   cases h1
   cases h2
   obtain⟨zv,sE,Fh,pe⟩:=uu hz w
   have Af:i.zero=some zv:=by simpa[hi]using Fh
   have rk:zv.cells.size=i.size:=by have:=(pe c w).len;simp at this;omega
   obtain⟨n,rfl⟩:∃ n:Nat,m=n:=⟨m.toNat,by omega⟩
   obtain⟨ID,mM,wX⟩:=hJ
   simp only[np]at mM wX
   have NG:0<n:=by omega
   have TO:n*i.bytes≤140737488355328:=by
    have h1:((n*i.bytes:Nat):Int)≤140737488355328:=by rw[Int.natCast_mul];exact mM
    omega
   have M8:n≤9223372036854775807:=by omega
   have su:=grownCap_ge w n 0 e
   have mw:=grownCap_le_maxLen w n 0 e (by unfold maxLen;omega)
   have wn:IntKind.i64.wrap (n:Int)=n:=wrap_i64 (by unfold lx;omega)
   have gK:(Builtin.append_ #[t,u] ty #[.slice none 0 0,.int .i64 n]).run P w = .ok (.slice (some ⟨w.heap.size,0,none⟩) n (grownCap w n 0 e))
     (w.drew.alloc (.cells (Builtin.zeroCells zv.cells n++Builtin.zeroCells zv.cells (grownCap w n 0 e-n)) e)):=by
    have UH:¬ (n=0):=by omega
    have TJ:∀ w:World,(asInt (.int .i64 (n:Int))).run P w = .ok (n:Int) w:=fun w=>by simp[asInt,asIntOf]
    have hle:¬ ((n:Int)≤0):=by omega
    have lL:max (n:Int) 0=n:=by omega
    have hnt:(n:Int).toNat=n:=by omega
    have gj:¬ (i.size=0):=by omega
    have UF:¬ ((n:Int)<0):=by omega
    have To:¬ (281474976710656<(n:Int)*(i.bytes:Int)):=by have:(n:Int)*(i.bytes:Int)≤140737488355328:=mM;omega
    have HQ:¬ (281474976710656<Builtin.nextslicecap n 0*i.bytes):=by have:=growslice_fits (old:=0) NG TO;omega
    have Tq:¬ (9223372036854775807<(n:Int)):=by omega
    simp[Builtin.append_,run_underlying ht,run_underlying hu,sizeOf,typeInfo,zeroValue,hi,Af,TJ,wn,UF,To,UH,gj,HQ,Tq,hle,lL,Question.forced,newRow,grownCap,run_firstCells_none]
    intro h0
    exact absurd h0 (Nat.ne_of_gt (Nat.mul_pos NG jd))
   refine⟨_,_,gK,?_⟩
   have mZ:Cells c w (Builtin.zeroCells zv.cells n).toList (List.replicate n z).flatten:=by
    have h1:(Builtin.zeroCells zv.cells n).toList=(List.replicate n zv.cells.toList).flatten:=by
     unfold Builtin.zeroCells
     exact FY zv.cells n (by omega)
    rw[h1]
    exact Ej _ _ pe n
   have gj:(Builtin.zeroCells zv.cells n++Builtin.zeroCells zv.cells (grownCap w n 0 e-n)).size=grownCap w n 0 e*i.size:=by
    simp only[cA,size_zeroCells,rk,← bg]
    congr 1;omega
   obtain⟨L,e1,e2,e3,e4,e5,e6⟩:=AD h w.drew (iC.drew w) e _ (List.replicate n z).flatten (Builtin.zeroCells zv.cells n).size (Builtin.zeroCells zv.cells n++Builtin.zeroCells zv.cells (grownCap w n 0 e-n)) (fO _).pX mZ (by
    simp only[cU]
    exact List.take_left' (by simp)) (by simp only[cA];omega)
   have hp:=FU (c:=c) (w:=w.drew.alloc (.cells (Builtin.zeroCells zv.cells n++Builtin.zeroCells zv.cells (grownCap w n 0 e-n)) e)) e1 e3 al.1 0 i.size n (grownCap w n 0 e) (by rw[e4,gj]) su mw
   rw[e2]at hp
   exact⟨_,_,_,⟨rfl,rfl⟩,e5,hp,e6⟩
  ·cases ho
 ·cases ho
theorem abf(h:e9 G c H w){al:Al}{x d:D}{δ:Dl}{u:Value}{ty:TypeId}(hr:eP c w u x)(ho:JL x H=some (d,δ)):∃ r w',(Instr.next u true ty).run P w = .ok r w'∧gU G c H w (KO H al d δ) r w':=by
 unfold JL at ho
 split at ho
 ·rename_i v
  split at ho
  ·rename_i s p hv
   cases hr with
   | ptr _ _ _ L eU gg=>
    have ga:=h.ob v _ hv
    simp only[Ob.gen]at ga
    rw[eU]at ga
    simp only[fJ]at ga
    obtain⟨_,tJ,hblk⟩:=ga
    have fj:=(aN.1 hblk).1
    rw[tJ]
    by_cases hp:p<s.size
    ·rw[if_pos hp]at ho
     cases ho
     obtain⟨m1,m2⟩:=Bq h hv rfl rfl (ob':=.oX s (p+(Utf8.decode s p).2)) rfl eU gg (.stringIter s (p+(Utf8.decode s p).2)) (fun w' qp _=>by
      simp only[fJ];exact⟨gg,tJ,qp⟩)
     refine⟨.tuple #[.bool true,goInt p,.int .i32 (Utf8.decode s p).1],_,?_,_,_,c,⟨rfl,rfl⟩,m1,?_,m2⟩
     ·simp[Instr.next,getObj,setObj,Sem.run,hblk,hp]
     ·refine .tup [.bool true,goInt p,.int .i32 (Utf8.decode s p).1] _ rfl fun i v d hv hd=>?_
      match i,hv,hd with
      | 0,hv,hd=>cases hv;cases hd;exact .val _
      | 1,hv,hd=>cases hv;cases hd;exact .val _
      | 2,hv,hd=>cases hv;cases hd;exact .val _
    ·rw[if_neg hp]at ho
     cases ho
     refine⟨.tuple #[.bool false],w,?_,_,_,c,⟨rfl,rfl⟩,h,?_,Step.refl _ _ _ _⟩
     ·simp[Instr.next,getObj,Sem.run,hblk,hp]
     ·refine .tup [.bool false] _ rfl fun i v d hv hd=>?_
      match i,hv,hd with
      | 0,hv,hd=>cases hv;cases hd;exact .val _
  ·cases ho
 ·cases ho
theorem aaZ(h:e9 G c H w){x d:D}{u:Value}(hr:eP c w u x)(ho:D8 x H=some d):∃ r,(Instr.entry u).run P w = .ok r w∧eP c w r d:=by
 unfold D8 at ho
 split at ho
 ·rename_i v
  split at ho
  ·rename_i m since seen hv
   split at ho
   ·rename_i kk es i hm vz
    split at ho
    ·rename_i k d0 No
     split at ho
     ·rename_i hlen
      cases ho
      have re:=ua hm
      dsimp only at re
      cases hr with
      | ptr _ _ _ L eU gg=>
       have ga:=h.ob v _ hv
       simp only[Ob.gen]at ga
       rw[eU]at ga
       simp only[fJ]at ga
       obtain⟨_,tJ,bm,xp,hblk⟩:=ga
       cases xp with
       | omap _ Lm vF Fb=>
        have oQ:=h.ob m _ re
        simp only[Ob.gen]at oQ
        rw[vF]at oQ
        simp only[fJ]at oQ
        obtain⟨_,_,arr,clock,zR,gj,jG,zz⟩:=oQ
        have hi:i<arr.size:=by rw[gj];exact(ae.1 No).1
        have TG:arr[i]? = some arr[i]:=by simp[hi]
        obtain⟨q1,q2,q3⟩:=jG i _ _ TG No
        have TK:seen.toArray.back? = some i:=by simpa[Array.back?_eq_getElem?,List.getLast?_eq_getElem?]using vz
        have T9:arr.find? (fun e=>e.born == i)=some arr[i]:=by
         rw[Array.find?_eq_some_iff_getElem]
         refine⟨by simp[q3],i,hi,rfl,fun j hj=>?_⟩
         have l7:j<es.length:=by rw[← gj];omega
         have:=(jG j arr[j] es[j] (by simp) (by simp[l7])).2.2
         simp[this]
         try omega
        refine⟨.tuple #[k,arr[i].val],?_,?_⟩
        ·rw[tJ]
         have hc:clock=since:=by rw[zz,hlen]
         subst hc
         simp only[bj]
         simp only[Instr.entry,getObj,Sem.run_bind,Sem.run,hblk,Result.andThen_ok,TK,zR,T9]
         simp[q1]
        ·refine .tup [k,arr[i].val] _ rfl fun j v d hv hd=>?_
         match j,hv,hd with
         | 0,hv,hd=>cases hv;cases hd;exact .val _
         | 1,hv,hd=>cases hv;cases hd;exact q2
     ·cases ho
    ·cases ho
   ·cases ho
  ·cases ho
 ·cases ho
theorem abi(h:e9 G c H w){al:Al}(fO:kH H al){t:TypeId}{k e:TypeId}(hu:P.underlying t=some (.map k e)){x d:D}{δ:Dl}{u:Value}(hr:eP c w u x)(ho:AR x H al.1=some (d,δ)) :
  ∃ r w',(Instr.range t u).run P w = .ok r w'∧gU G c H w (KO H al d δ) r w':=by
 unfold AR at ho
 split at ho
 ·rename_i m
  split at ho
  ·rename_i kk es hm
   cases ho
   have re:=ua hm
   dsimp only at re
   cases hr with
   | omap _ Lm vF Fb=>
    have oQ:=h.ob m _ re
    simp only[Ob.gen]at oQ
    rw[vF]at oQ
    simp only[fJ]at oQ
    obtain⟨_,_,arr,clock,zR,gj,jG,zz⟩:=oQ
    obtain⟨k1,k2,k3⟩:=FK h fO (.mapIter (some Lm.b) clock #[] clock) (.jt (.omap m) es.length []) rfl rfl (fun qo hb=>by
     simp only[fJ]
     refine⟨trivial,trivial,Lm.b,qo _ _ (.omap m Lm vF Fb),?_⟩
     rw[← zz];exact hb)
    exact⟨_,_,run_range_map w t k e Lm.b arr clock hu zR,_,_,_,⟨rfl,rfl⟩,k1,k2,k3⟩
  ·cases ho
 ·cases ho
theorem acA(h:e9 G c H w)(he:jh c w env a){al:Al}(fO:kH H al){o:Oper}{io:gp}(hc:oJ P G o=some io){d:D}{δ:Dl}(hk:kG env H al.1 io=some (d,δ)) :
  ∃ v w',wF ((execOp a.eval o).run P w) v w'∧gU G c H w (KO H al d δ) v w':=by
 have plain:∀ {v:Value} {d:D},eP c w v d→gU G c H w (KO H al d .no) v w:=fun hr=>⟨_,_,c,⟨rfl,rfl⟩,h,hr,Step.refl _ _ _ _⟩
 unfold oJ at hc
 split at hc
 ·rename_i t x y ty ho
  split at hc
  ·rename_i hJ
   simp only[ai]at hc
   obtain⟨X,hX,rfl⟩:=hc
   have hy:y = .const (.slice none 0 0):=by
    have:=hJ.2
    unfold DV at this
    split at this
    ·rfl
    ·cases this
   subst hy
   obtain⟨mO,rfl⟩:=kb hk
   obtain⟨r,h1,h2⟩:=Pm h hJ.1 (gD h he hX) mO x (.const (.slice none 0 0))
   exact⟨r,w,by simp only[execOp,ho];exact iw h1,plain h2⟩
  ·cases hc
 ·rename_i t x y ty ho
  split at hc
  ·rename_i hJ
   simp only[ai]at hc
   obtain⟨X,hX,rfl⟩:=hc
   have hy:y = .const (.slice none 0 0):=by
    have:=hJ.2
    unfold DV at this
    split at this
    ·rfl
    ·cases this
   subst hy
   obtain⟨mO,rfl⟩:=kb hk
   obtain⟨r,h1,h2⟩:=Pm h hJ.1 (gD h he hX) mO x (.const (.slice none 0 0))
   exact⟨r,w,by simp only[execOp,ho];exact iw h1,plain h2⟩
  ·cases hc
 ·rename_i t x ho
  split at hc
  ·rename_i X hu hX
   cases hc
   simp only[kG]at hk
   split at hk
   ·rename_i s hs
    cases hk
    have hr:=gD h he hX
    rw[hs]at hr
    generalize I9:a.eval x=u at hr
    cases hr
    obtain⟨k1,k2,k3⟩:=FK h fO (.stringIter s 0) (.oX s 0) rfl rfl (fun _ hb=>by simp only[fJ];exact⟨trivial,trivial,hb⟩)
    refine⟨_,_,by simp only[execOp,ho,I9];exact iw (v:=.pointer (some ⟨w.heap.size,0,none⟩)) (w':=w.alloc (.stringIter s 0)) (by simp[Instr.range,run_underlying hu]),_,_,_,⟨rfl,rfl⟩,k1,k2,k3⟩
   ·cases hk
  ·rename_i k e X hu hX
   cases hc
   obtain⟨r,w',h1,h2⟩:=abi (P:=P) h fO hu (gD h he hX) hk
   exact⟨r,w',by simp only[execOp,ho];exact iw h1,h2⟩
  ·cases hc
 ·rename_i x ho
  simp only[ai]at hc
  obtain⟨X,hX,rfl⟩:=hc
  obtain⟨r,w',h1,h2⟩:=abf (P:=P) (ty:=o.type) h (gD h he hX) hk
  exact⟨r,w',by simp only[execOp,ho];exact iw h1,h2⟩
 ·simp only[ai]at hc
  obtain⟨X,hX,rfl⟩:=hc
  cases hk
 ·rename_i x ho
  simp only[ai]at hc
  obtain⟨X,hX,rfl⟩:=hc
  obtain⟨mO,rfl⟩:=kb hk
  obtain⟨r,h1,h2⟩:=aaZ (P:=P) h (gD h he hX) mO
  exact⟨r,w,by simp only[execOp,ho];exact iw h1,plain h2⟩
 ·rename_i cl ho
  split at hc
  ·rename_i t x iq lZ o8
   split at hc
   ·rename_i eX
    simp only[ai]at hc
    obtain⟨X,hX,rfl⟩:=hc
    have o9:cl.argTypes = #[t]:=by rw[← bG (xs:=cl.argTypes),lZ]
    have zw:cl.args = #[x]:=by rw[← bG (xs:=cl.args),o8]
    have hr:=gD h he hX
    simp only[kG]at hk
    split at hk
    ·rename_i na
     cases hk
     rw[na]at hr
     generalize I9:a.eval x=u at hr
     cases hr
     have I2:∃ e,P.underlying t=some (.slice e):=by
      unfold x4 at eX
      split at eX
      ·exact⟨_,by assumption⟩
      ·cases eX
     obtain⟨e,hu⟩:=I2
     refine⟨.int .i64 0,w,by rw[rC ho iq,o9,zw];exact iw (by simp[I9,Builtin.cap_,run_underlying hu,goInt]),plain (.val _)⟩
    ·cases hk
   ·cases hc
  ·rename_i t x iq lZ o8
   have o9:cl.argTypes = #[t]:=by rw[← bG (xs:=cl.argTypes),lZ]
   have zw:cl.args = #[x]:=by rw[← bG (xs:=cl.args),o8]
   split at hc
   ·rename_i e hu
    split at hc
    ·rename_i z i X hz hi hX
     split at hc
     ·rename_i hJ
      cases hc
      obtain⟨w',h1,h2⟩:=aaW (P:=P) (al:=al) (ty:=o.type) h hu hi hz hJ.1 hJ.2 (gD h he hX) hk
      exact⟨_,w',by rw[rC ho iq,o9,zw];exact iw (by simpa using h1),h2⟩
     ·cases hc
    ·cases hc
   ·cases hc
  ·rename_i t u x y iq lZ o8
   have o9:cl.argTypes = #[t,u]:=by rw[← bG (xs:=cl.argTypes),lZ]
   have zw:cl.args = #[x,y]:=by rw[← bG (xs:=cl.args),o8]
   split at hc
   ·rename_i e hu U6
    split at hc
    ·rename_i z i X Y hz hi hX hY
     split at hc
     ·rename_i hJ
      cases hc
      obtain⟨r,w',h1,h2⟩:=aaO (P:=P) (ty:=o.type) h fO hu U6 hi hz hJ.1 hJ.2 (gD h he hX) (gD h he hY) hk
      exact⟨r,w',by rw[rC ho iq,o9,zw];exact iw (by simpa using h1),h2⟩
     ·cases hc
    ·cases hc
   ·cases hc
  ·cases hc
 ·cases hc
end
end Go.AL
namespace Go.AL
open Go
abbrev FW(ro:Option Nat):Fence:={ Fence.wide with round:=ro }
theorem yV{ro:Option Nat}{n:Nat}{P:Program}{f:FuncId}{args:Array Value}{w:World}{R:Ending→World→Prop}:CallsIn (FW ro) n P f args w R↔Calls P f args w R:=
 callsIn_wide (n:=n)
inductive ko(c:Ctx):List Nat→List Deferred→Prop
 | nil:ko c [] []
 | cons {v:Nat} {vs:List Nat} {ds:List Deferred} (L:Loc) (h1:c.ι v 0=some L) (h2:L.ij=false) (h:ko c vs ds):ko c (v::vs) ({ target:=.collected L.b,args:=#[] }::ds)
theorem ko.mono{c c':Ctx}(eU:∀ v L,c.ι v 0=some L→c'.ι v 0=some L){vs:List Nat}{ds:List Deferred}(h:ko c vs ds):ko c' vs ds:=by
 induction h with
 | nil=>exact .nil
 | cons L h1 h2 _ ih=>exact .cons L (eU _ _ h1) h2 ih
structure ji(G:GT)(N:Nat)(c:Ctx)(w:World)(s:St)(a:Act):Prop where
 eR:e9 G c s.H w
 env:jh c w s.env.get a
 size:N≤a.tmps.size
 marks:ko c s.marks a.defers
def o5(N:Nat):Option Tmp→Bool
 | some d=>decide (d<N)
 | none=>true
def Hc(P:Program)(G:GT)(o:Oper):Option gp:=match kV P G o with
 | some op=>some op
 | none=>oJ P G o
def qT(P:Program)(G:GT)(N:Nat)(ops:Array Oper)(o:Oper):Option fo:=
 match Hc P G o with
 | none=>none
 | some op=>if o5 N o.dst=true then(match o.guard with
   | none=>some ⟨o.dst,op,none⟩
   | some (j,want)=>match (ops[j]?).bind (·.dst)with
    | some t=>some ⟨o.dst,op,some (t,want)⟩
    | none=>none)else none
def mo(P:Program)(G:GT)(N:Nat)(ops:Array Oper):List Oper→Option (List fo)
 | []=>some []
 | o::r=>match qT P G N ops o,mo P G N ops r with
  | some e,some l=>some (e::l)
  | _,_=>none
section
variable{P:Program}{G:GT}{c:Ctx}{w:World}{env:fD}{a:Act}{N:Nat}
theorem abG{env:Env}{a:Act}{c:Ctx}{w:World}(he:jh c w env.get a)(hN:N≤a.tmps.size){dst:Option Tmp}(hd:o5 N dst=true){v:Value}{d:D}(hr:eP c w v d) :
  jh c w (put env dst d).get (a.put dst v):=by
 cases dst with
 | none=>exact he
 | some t=>
  have ht:t<a.tmps.size:=aK (by simpa[o5]using hd) hN
  intro k
  simp only[put,Env.qX,Act.put]
  split
  ·rename_i e
   subst e
   have:(a.tmps.setIfInBounds t v).getD t undef=v:=by simp[Array.getD,ht]
   rw[this];exact hr
  ·rename_i e
   have:(a.tmps.setIfInBounds t v).getD k undef=a.tmps.getD k undef:=by
    simp only[bO,bE e]
   rw[this];exact he k
theorem PD{a:Act}{dst:Option Tmp}{v:Value}:(a.put dst v).tmps.size=a.tmps.size:=by
 cases dst<;>simp[Act.put]
theorem put_defers{a:Act}{dst:Option Tmp}{v:Value}:(a.put dst v).defers=a.defers:=by
 cases dst<;>rfl
theorem jh.carry{c c':Ctx}{w w':World}(h:∀ v d,eP c w v d→eP c' w' v d)(he:jh c w env a):jh c' w' env a:=fun k=>h _ _ (he k)
theorem ji.next{c':Ctx}{w':World}{H':U}{s:St}(hs:ji G N c w s a)(eR:e9 G c' H' w')(eX:Step s.H.length c s.H w c' H' w'){dst:Option Tmp}(hd:o5 N dst=true)
  {v:Value} {d:D} (hr:eP c' w' v d):ji G N c' w' { s with env:=put s.env dst d,H:=H' } (a.put dst v) where
 eR:=eR
 env:=abG (hs.env.carry fun _ _ h=>h.nA hs.eR.toHeapOK eX) hs.size hd hr
 size:=by rw[PD];exact hs.size
 marks:=by
  rw[put_defers]
  refine hs.marks.mono fun v L h=>eX.old v 0 L ?_ h
  rcases bh v s.H.length with h'|h'
  ·exact h'
  ·rw[hs.eR.out v 0 h']at h;cases h
theorem pY(he:jh c w env a){ops:Array Oper}{o:Oper}{g:Option (Nat×Bool)}(hg:match o.guard with
   | none=>g=none
   | some (j,want)=>∃ t,(ops[j]?).bind (·.dst)=some t∧g=some (t,want)) {b:Bool} (h:guardOf env g=some b):Region.wanted o (yielded ops a.tmps)=b:=by
 unfold Region.wanted
 split at hg
 ·rename_i xc
  subst hg
  simp only[guardOf,aq]at h
  simp[xc,h]
 ·rename_i j want xc
  obtain⟨t,ht,rfl⟩:=hg
  simp only[guardOf]at h
  split at h
  ·rename_i x hx
   cases h
   have hr:=he t
   rw[hx]at hr
   generalize hv:a.tmps.getD t undef=v at hr
   cases hr
   have ia:a.tmps[t]? = some (.bool x):=by
    rw[bO]at hv
    cases hq:a.tmps[t]? with
    | none=>rw[hq]at hv;simp[undef]at hv
    | some q=>rw[hq]at hv;simpa using hv
   simp only[xc,yielded,ht,Option.bind_some,ia]
   cases x<;>cases want<;>rfl
  ·rename_i vs hx
   cases h
   have hr:=he t
   rw[hx]at hr
   generalize hv:a.tmps.getD t undef=v at hr
   cases hr
   have ia:a.tmps[t]? = some (.tuple vs)∨a.tmps[t]? = none:=by
    rw[bO]at hv
    cases hq:a.tmps[t]? with
    | none=>exact .inr rfl
    | some q=>rw[hq]at hv;exact .inl (by simpa using hv)
   rcases ia with ia|ia<;>simp only[xc,yielded,ht,Option.bind_some,ia]<;>cases want<;>rfl
  ·cases h
theorem Mg{o:Oper}{op:gp}(h:Hc P G o=some op):kV P G o=some op∨oJ P G o=some op:=by
 unfold Hc at h
 split at h
 ·cases h;exact .inl (by assumption)
 ·exact .inr h
theorem Md{o:Oper}{io:gp}(hc:kV P G o=some io∨oJ P G o=some io){f:fD}{H:U}{n:Nat}{r:D×Dl}(h:ft f H n io=some r):kV P G o=some io:=by
 refine hc.resolve_right fun h2=>?_
 rw[acM (He h2)]at h
 cases h
theorem y6{o:Oper}{io:gp}(hc:kV P G o=some io∨oJ P G o=some io){f:fD}{r:FuncId×List D}(h:iM f io=some r):kV P G o=some io:=by
 refine hc.resolve_right fun h2=>?_
 rw[acN (He h2)]at h
 cases h
theorem tq{ops:Array Oper}{o:Oper}{e:fo}(h:qT P G N ops o=some e) :
  (kV P G o=some e.op∨oJ P G o=some e.op)∧e.dst=o.dst∧(o5 N o.dst=true)∧(match o.guard with
   | none=>e.guard=none
   | some (j,want)=>∃ t,(ops[j]?).bind (·.dst)=some t∧e.guard=some (t,want)):=by
 unfold qT at h
 split at h
 ·cases h
 ·rename_i op gf
  split at h
  ·rename_i hd
   split at h
   ·rename_i hg
    cases h
    exact⟨Mg gf,rfl,hd,by simp[hg]⟩
   ·rename_i j want hg
    split at h
    ·rename_i t ht
     cases h
     exact⟨Mg gf,rfl,hd,t,ht,rfl⟩
    ·cases h
  ·cases h
theorem vO{o:Oper}{io:gp}(h:kV P G o=some io):∀ c,o.op≠.defer c:=by
 intro c hc
 simp[kV,hc]at h
theorem O9{o:Oper}{io:gp}(h:oJ P G o=some io):∀ c,o.op≠.defer c:=by
 intro c hc
 simp[oJ,hc]at h
theorem ade{ro:Option Nat}{n:Nat}{o:Oper}{s:St}{io:gp}{d:D}{δ:Dl}{next:Act→World→Prop}{Q:Exit→Act→World→Prop}(hs:ji G N c w s a)(hc:oJ P G o=some io)
  (hd:o5 N o.dst=true) {al:Al} (fO:kH s.H al) (h:kG s.env.get s.H al.1 io=some (d,δ))
  (k:∀ c' w' a',ji G N c' w' { s with env:=put s.env o.dst d,H:=δ.app s.H al } a'→Step s.H.length c s.H w c' (δ.app s.H al) w'→next a' w'):o.wpIn (FW ro) n P a w next Q:=by
 obtain⟨v,w',hy,d',H',c',⟨rfl,rfl⟩,eR,hr,eX⟩:=acA (P:=P) hs.eR hs.env fO hc h
 refine⟨fun _ _=>trivial,?_⟩
 rw[Oper.semAt_plain (FW ro) a.eval o (O9 hc)]
 have hn:=k c' w' (a.put o.dst v) (hs.next eR eX hd hr) eX
 rcases hy with hy|⟨hy,rfl⟩
 ·rw[hy];exact hn
 ·rw[hy];exact hn
theorem ac9{ro:Option Nat}{n:Nat}{o:Oper}{s:St}{x:X}{next:Act→World→Prop}{Q:Exit→Act→World→Prop}(hs:ji G N c w s a)(hc:oJ P G o=some (.nextM x))
  (hd:o5 N o.dst=true) {v m since:Nat} {seen:List Nat} {kk:KK} {es:List (Value×D)} (hx:ev s.env.get x = .ptr v 0 0) (hv:s.H[v]? = some (.jt (.omap m) since seen)) (hm:s.H[m]? = some (.map kk es)) (pQ:es.length=since)
  (k0:(∀ i,i<es.length→i∈seen)→∀ c' w' a',ji G N c' w' { s with env:=put s.env o.dst (.tup [.b false]) } a'→Step s.H.length c s.H w c' s.H w'→next a' w')
  (k1:∀ i k d,es[i]? = some (k,d)→i ∉ seen→∀ c' w' a',ji G N c' w' { s with env:=put s.env o.dst (.tup [.b true,.val k,d]),H:=s.H.set v (.jt (.omap m) since (seen ++ [i])) } a' →
   Step s.H.length c s.H w c' (s.H.set v (.jt (.omap m) since (seen ++ [i]))) w'→next a' w'):o.wpIn (FW ro) n P a w next Q:=by
 have gf:∃ y,o.op = .next y false∧cX G y=some x:=by
  unfold oJ at hc
  repeat' split at hc
  all_goals first|(cases hc;done)|(simp only[ai]at hc;obtain⟨_,_,hh⟩:=hc;cases hh;done)|skip
  simp only[ai]at hc
  obtain⟨X,hX,hh⟩:=hc
  cases hh
  exact⟨_,by assumption,hX⟩
 obtain⟨y,ho,hX⟩:=gf
 have hr:=gD hs.eR hs.env hX
 rw[hx]at hr
 generalize hu:a.eval y=u at hr
 cases hr with
 | ptr _ _ _ L eU gg=>
  have ga:=hs.eR.ob v _ hv
  simp only[Ob.gen]at ga
  rw[eU]at ga
  simp only[fJ]at ga
  obtain⟨_,tJ,bm,xp,hblk⟩:=ga
  cases xp with
  | omap _ Lm vF Fb=>
   have oQ:=hs.eR.ob m _ hm
   simp only[Ob.gen]at oQ
   rw[vF]at oQ
   simp only[fJ]at oQ
   obtain⟨_,_,arr,clock,zR,gj,jG,zz⟩:=oQ
   have l4:clock=since:=by rw[zz,pQ]
   subst l4
   refine⟨fun _ _=>trivial,?_⟩
   rw[Oper.semAt_plain (FW ro) a.eval o (O9 hc)]
   have Ia:∀ e∈arr.toList,e.born<clock:=by
    intro e he
    obtain⟨i,hi⟩:=aD.1 he
    have pL:i<es.length:=by rw[← gj];have:=(ae.1 hi).1;simpa using this
    have:=(jG i e es[i] (by simpa using hi) (by simp[pL])).2.2
    omega
   have N3:=next_test_false seen.toArray arr clock clock Ia (Nat.le_refl _)
   have hold:(leftOf arr seen.toArray).filter (fun e=>decide (e.born<clock))=leftOf arr seen.toArray:=by
    apply Array.filter_eq_self.2
    intro e he
    simp only[decide_eq_true_eq]
    exact Ia e (by simpa using (dz.1 he).1)
   have kC:(leftOf arr seen.toArray).filter (fun e=>decide (e.born≥clock)) = #[]:=by
    apply Array.filter_eq_empty_iff.2
    intro e he
    have:=Ia e (by simpa using (dz.1 he).1)
    simp;omega
   have Nu:∀ w1:World,w1.heap=w.heap→(getObj L.b).run P w1 = .ok (.mapIter (some Lm.b) clock seen.toArray clock) w1:=fun w1 h1=>by simp[getObj,Sem.run,h1,hblk]
   have Nv:∀ w1:World,w1.heap=w.heap→(getObj Lm.b).run P w1 = .ok (.map arr clock) w1:=fun w1 h1=>by simp[getObj,Sem.run,h1,zR]
   have lK:∀ e,e∈(leftOf arr seen.toArray).toList→∃ i k d,es[i]? = some (k,d)∧i ∉ seen∧e.key=k∧eP c w e.val d∧e.born=i:=by
    intro e he
    have vi:e∈arr∧(!seen.toArray.contains e.born)=true:=by
     have:=dz.1 (show e∈leftOf arr seen.toArray by simpa using he)
     exact this
    obtain⟨i,hi⟩:=aD.1 (show e∈arr.toList by simpa using vi.1)
    have pL:i<es.length:=by rw[← gj];have:=(ae.1 hi).1;simpa using this
    obtain⟨q1,q2,q3⟩:=jG i e es[i] (by simpa using hi) (by simp[pL])
    refine⟨i,es[i].1,es[i].2,by simp[pL],?_,q1,q2,q3⟩
    have:=vi.2
    rw[q3]at this
    simpa using this
   by_cases ka:(leftOf arr seen.toArray) = #[]
   ·have gK:(execOp a.eval o).run P w = .ok (.value (.tuple #[.bool false])) w:=by
     have h2:(Instr.next (.pointer (some ⟨L.b,0,none⟩)) false o.type).run P w = .ok (.tuple #[.bool false]) w:=by
      have zM:(arr.filter fun e => !(seen.toArray).contains e.born) = #[]:=ka
      simp only[Instr.next,Sem.run_bind,Nu w rfl,Result.andThen_ok,Nv w rfl,N3,bF,if_false,Sem.run_pure,zM]
      simp[choose,Sem.run,Question.forced]
     simp only[execOp,ho,hu]
     rw[tJ]
     simp[h2]
    rw[gK]
    refine k0 (fun i hi=>?_) c w _ (hs.next hs.eR (Step.refl _ _ _ _) hd (.tup [.bool false] _ rfl fun j v d hv hd=>?_)) (Step.refl _ _ _ _)
    ·by_cases fw:i∈seen
     ·exact fw
     ·exfalso
      have vp:i<arr.size:=by omega
      have TM:=(jG i arr[i] es[i] (by simp[vp]) (by simp[hi])).2.2
      have:arr[i]∈leftOf arr seen.toArray:=by
       refine dz.2 ⟨Array.getElem_mem _,?_⟩
       rw[TM];simpa using fw
      rw[ka]at this
      simp at this
    ·match j,hv,hd with
     | 0,hv,hd=>cases hv;cases hd;exact .val _
   ·have fY:(leftOf arr seen.toArray).isEmpty=false:=by
     cases hq:(leftOf arr seen.toArray).isEmpty with
     | false=>rfl
     | true=>exact absurd (Array.isEmpty_iff.1 hq) ka
    have jd:0<(leftOf arr seen.toArray).size:=by
     rcases dO (leftOf arr seen.toArray).size with h|h
     ·exact absurd (Array.eq_empty_of_size_eq_zero h) ka
     ·exact h
    have oP:∃ (i:Nat) (w1:World),i<(leftOf arr seen.toArray).size∧iC w w1∧w1.heap=w.heap∧(choose (.mapNext (leftOf arr seen.toArray).size)).run P w = .ok i w1:=by
     by_cases hf:(Question.mapNext (leftOf arr seen.toArray).size).forced=true
     ·exact⟨0,w,jd,iC.refl w,rfl,by simp[choose,Sem.run,hf]⟩
     ·exact⟨w.tape w.drawn (.mapNext (leftOf arr seen.toArray).size) % (leftOf arr seen.toArray).size,{ w with drawn:=w.drawn+1 },Nat.mod_lt _ jd,iC.drew w,rfl,by simp[choose,Sem.run,hf,Question.cut]⟩
    obtain⟨i,w1,hi,Nw,Ud,TS⟩:=oP
    obtain⟨i',k,d,h1,h2,h3,h4,h5⟩:=lK (leftOf arr seen.toArray)[i] (by simp)
    have vB:=hs.eR.mL Nw
    obtain⟨m1,m2⟩:=Bq vB hv rfl rfl (ob':=.jt (.omap m) clock (seen ++ [i'])) rfl eU gg (.mapIter (some Lm.b) clock (seen ++ [i']).toArray clock) (fun w' qp qo=>by
     simp only[fJ]
     exact⟨gg,tJ,Lm.b,.omap m Lm vF Fb,qp⟩)
    have eX:Step s.H.length c s.H w c (s.H.set v (.jt (.omap m) clock (seen ++ [i']))) { w1 with heap:=w1.heap.setIfInBounds L.b (.mapIter (some Lm.b) clock (seen ++ [i']).toArray clock) }:=(x9 _ Nw).trans m2 (Nat.le_refl _)
    have gK:(execOp a.eval o).run P w = .ok (.value (.tuple #[.bool true,k,(leftOf arr seen.toArray)[i].val])) { w1 with heap:=w1.heap.setIfInBounds L.b (.mapIter (some Lm.b) clock (seen ++ [i']).toArray clock) }:=by
     have nO:(setObj L.b (.mapIter (some Lm.b) clock (seen ++ [i']).toArray clock)).run P w1 = .ok () { w1 with heap:=w1.heap.setIfInBounds L.b (.mapIter (some Lm.b) clock (seen ++ [i']).toArray clock) }:=by
      simp[setObj,Sem.run,Ud,hblk]
     have h2:(Instr.next (.pointer (some ⟨L.b,0,none⟩)) false o.type).run P w = .ok (.tuple #[.bool true,k,(leftOf arr seen.toArray)[i].val]) { w1 with heap:=w1.heap.setIfInBounds L.b (.mapIter (some Lm.b) clock (seen ++ [i']).toArray clock) }:=by
      have zM:(arr.filter fun e => !(seen.toArray).contains e.born)=leftOf arr seen.toArray:=rfl
      have gQ:((if (leftOf arr seen.toArray).isEmpty then #[none]else #[])++(leftOf arr seen.toArray ++ #[]).map some)=(leftOf arr seen.toArray).map some:=by simp[fY]
      simp only[Instr.next,Sem.run_bind,Nu w rfl,Result.andThen_ok,Nv w rfl,N3,bF,if_false,Sem.run_pure,zM,hold,kC,gQ,Array.size_map,TS]
      have Ub:((leftOf arr seen.toArray).map some)[i]? = some (some (leftOf arr seen.toArray)[i]):=by simp[hi]
      simp only[Ub,Sem.run_bind]
      rw[h5,show seen.toArray.push i'=(seen ++ [i']).toArray by simp,nO]
      simp[h3]
     simp only[execOp,ho,hu]
     rw[tJ]
     simp[h2]
    rw[gK]
    refine k1 i' k d h1 h2 c _ _ (hs.next m1 eX hd (.tup [.bool true,k,(leftOf arr seen.toArray)[i].val] _ rfl fun j v d hv hd=>?_)) eX
    match j,hv,hd with
    | 0,hv,hd=>cases hv;cases hd;exact .val _
    | 1,hv,hd=>cases hv;cases hd;exact .val _
    | 2,hv,hd=>cases hv;cases hd;exact h4.nA hs.eR.toHeapOK eX
theorem ada{ro:Option Nat}{n:Nat}{o:Oper}{s:St}{io:gp}{d:D}{δ:Dl}{next:Act→World→Prop}{Q:Exit→Act→World→Prop}(hs:ji G N c w s a)(hc:kV P G o=some io)
  (hd:o5 N o.dst=true) {al:Al} (fO:kH s.H al) (h:ft s.env.get s.H al.1 io=some (d,δ))
  (k:∀ c' w' a',ji G N c' w' { s with env:=put s.env o.dst d,H:=δ.app s.H al } a'→Step s.H.length c s.H w c' (δ.app s.H al) w'→next a' w'):o.wpIn (FW ro) n P a w next Q:=by
 obtain⟨v,w',hy,d',H',c',⟨rfl,rfl⟩,eR,hr,eX⟩:=Py (P:=P) (K:=fun d' H'=>d'=d∧H'=δ.app s.H al) hs.eR hs.env fO hc (LA h ⟨rfl,rfl⟩)
 refine⟨fun _ _=>trivial,?_⟩
 rw[Oper.semAt_plain (FW ro) a.eval o (vO hc)]
 have hn:=k c' w' (a.put o.dst v) (hs.next eR eX hd hr) eX
 rcases hy with hy|⟨hy,rfl⟩
 ·rw[hy];exact hn
 ·rw[hy];exact hn
