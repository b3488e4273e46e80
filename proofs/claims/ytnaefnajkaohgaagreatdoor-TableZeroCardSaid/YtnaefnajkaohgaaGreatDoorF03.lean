/- Part 3 of the proof of skewer.skewerlaw15.TableZero. -/
import Derived.Test.YtnaefnajkaohgaaGreatDoorF01
import Derived.Test.YtnaefnajkaohgaaGreatDoorF02
import Derived.Laws.IdiomRangeMap
import Derived.RangeFuncLeaves
import Derived.OwnWalkIn
set_option linter.all false
namespace Go.AL
open Go
def DA:Int→Bool
 | .ofNat m=>Nat.ble m 9223372036854775807
 | .negSucc m=>Nat.ble m 9223372036854775807
theorem SB(n:Int):DA n=true↔kE n:=by
 unfold kE
 cases n with
 | ofNat m=>
  have e:DA (.ofNat m)=Nat.ble m 9223372036854775807:=rfl
  rw[e,Nat.ble_eq]
  have:(Int.ofNat m)=(m:Int):=rfl
  omega
 | negSucc m=>
  have e:DA (.negSucc m)=Nat.ble m 9223372036854775807:=rfl
  rw[e,Nat.ble_eq]
  have:Int.negSucc m = -((m:Int)+1):=Int.negSucc_eq m
  omega
instance(n:Int):Decidable (kE n):=decidable_of_iff (DA n=true) (SB n)
def DI(k:Nat):Int→Bool
 | .ofNat m=>Nat.ble m k
 | .negSucc _=>true
def mm(n:Int)(k:Nat):Prop:=n≤(k:Int)
theorem Tj(n:Int)(k:Nat):DI k n=true↔mm n k:=by
 unfold mm
 cases n with
 | ofNat m=>
  have e:DI k (.ofNat m)=Nat.ble m k:=rfl
  rw[e,Nat.ble_eq]
  have:(Int.ofNat m)=(m:Int):=rfl
  omega
 | negSucc m=>
  have e:DI k (.negSucc m)=true:=rfl
  rw[e]
  have:Int.negSucc m = -((m:Int)+1):=Int.negSucc_eq m
  simp only[true_iff]
  omega
instance(n:Int)(k:Nat):Decidable (mm n k):=decidable_of_iff (DI k n=true) (Tj n k)
inductive Dl where
 | no
 | cells (v o:Nat) (xs:List D)
 | obj (v:Nat) (ob:Ob)
 | new (ob:Ob)
 deriving Inhabited
def Dl.app(H:U)(al:Al):Dl→U
 | .no=>H
 | .cells v o xs=>match H[v]? with
  | some (.row t g cs)=>H.set v (.row t g (cs.take o++xs++cs.drop (o+xs.length)))
  | _=>H
 | .obj v ob=>H.set v ob
 | .new ob=>al.2 ob
abbrev R:=Option (D×Dl)
def ret(d:D):R:=some (d,.no)
def ic(op:BinOp)(k:IntKind)(a b:Int):Option D:=
 match op with
 | .add=>if k = .i64 then(if kE (a+b)then some (.val (.int .i64 (a+b)))else none)else some (.val (.int k (k.wrap (a+b))))
 | .sub=>if k = .i64 then(if kE (a-b)then some (.val (.int .i64 (a-b)))else none)else some (.val (.int k (k.wrap (a-b))))
 | .mul=>if k = .i64 then(if kE (a*b)then some (.val (.int .i64 (a*b)))else none)else some (.val (.int k (k.wrap (a*b))))
 | .quo=>if b=0 then none else some (.val (.int k (k.wrap (a.tdiv b))))
 | .rem=>if b=0 then none else some (.val (.int k (a.tmod b)))
 | .and | .or | .xor | .andNot=>some (.val (.int k (bits op k a b)))
 | .eql=>some (.val (.bool (a == b)))
 | .neq=>some (.val (.bool (a != b)))
 | .lss=>some (.val (.bool (decide (a<b))))
 | .leq=>some (.val (.bool (decide (a≤b))))
 | .gtr=>some (.val (.bool (decide (a>b))))
 | .geq=>some (.val (.bool (decide (a≥b))))
 | _=>none
def H7(op:BinOp)(k:IntKind)(a b:Int):Option D:=
 match op with
 | .shl=>if 0≤b then some (.val (.int k (k.wrap (a*2 ^ (min b.toNat k.bits)))))else none
 | .shr=>if 0≤b then some (.val (.int k (a.fdiv (2 ^ (min b.toNat k.bits)))))else none
 | _=>none
def wE(op:BinOp)(a b:ByteArray):Option D:=
 match op with
 | .eql=>some (.val (.bool (a.data.toList == b.data.toList)))
 | .neq=>some (.val (.bool (!(a.data.toList == b.data.toList))))
 | .add=>if mm ((a.size+b.size:Nat):Int) 9223372036854775807 then some (.val (.string (a++b)))else none
 | _=>none
def iZ(op:BinOp)(x y:D):Option D:=
 match x,y with
 | .val (.int k a),.val (.int k' b)=>if ml op then H7 op k a b else if k=k' then ic op k a b else none
 | .val (.string a),.val (.string b)=>wE op a b
 | _,_=>none
def zO(op:UnOp)(x:D):Option D:=
 match op,x with
 | .not,.val (.bool b)=>some (.val (.bool (!b)))
 | .neg,.val (.int .i64 n)=>if kE (-n)then some (.val (.int .i64 (-n)))else none
 | .xor,.val (.int k n)=>some (.val (.int k (bits .xor k (if k.signed then -1 else k.max) n)))
 | _,_=>none
def tv(gK:Bool)(ls:List lB)(neg:Bool)(x y:D):Option D:=
 match gK,x,y with
 | true,.agg a,.agg b=>match lh ls a b with
  | some r=>some (.val (.bool (if neg then !r else r)))
  | none=>none
 | false,x,y=>match lh ls [x] [y]with
  | some r=>some (.val (.bool (if neg then !r else r)))
  | none=>none
 | _,_,_=>none
def uE(c a b:D):Option D:=
 match c with
 | .val (.bool x)=>some (if x then a else b)
 | _=>none
def qp(x:D)(H:U):Option D:=
 match x with
 | .ptr v g o=>match rowAt H v g with
  | some (_,cs)=>cs[o]?
  | none=>none
 | .eF cs=>cs[0]?
 | _=>none
def qq(n:Nat)(x:D)(H:U):Option D:=
 match x with
 | .ptr v g o=>match rowAt H v g with
  | some (_,cs)=>if o+n≤cs.length then some (.agg ((cs.drop o).take n))else none
  | none=>none
 | .eF cs=>if n≤cs.length then some (.agg (cs.take n))else none
 | _=>none
def uQ(a x:D)(H:U):R:=
 match a with
 | .ptr v g o=>match rowAt H v g with
  | some (_,cs)=>if o<cs.length∧one x=true then some (.any,.cells v o [x])else none
  | none=>none
 | _=>none
def uR(n:Nat)(a x:D)(H:U):R:=
 match a,cellsOf x with
 | .ptr v g o,some xs=>match rowAt H v g with
  | some (_,cs)=>if xs.length=n∧o+n≤cs.length then some (.any,.cells v o xs)else none
  | none=>none
 | _,_=>none
def mT(t:TypeId)(x:D)(n:Nat):R:=
 match cellsOf x with
 | some cs=>some (.ptr n 0 0,.new (.row t 0 cs))
 | none=>none
def ve(env:e9)(z:List D)(ps:List (Nat×Nat×X)):Option D:=
 match partsOf env ps with
 | some l=>match lay l z with
  | some cs=>some (.agg cs)
  | none=>none
 | none=>none
def rS(env:e9)(t sz:Nat)(z:List D)(m:Nat)(ps:List (Nat×X))(n:Nat):R:=
 match partsOf env (ps.map fun p=>(p.1*sz,sz,p.2))with
 | some l=>match lay l (List.replicate m z).flatten with
  | some cs=>some (.et n 0 sz 0 m,.new (.row t 0 cs))
  | none=>none
 | none=>none
def xK(off:Nat)(x:D):Option D:=
 match x with
 | .ptr v g o=>some (.ptr v g (o+off))
 | .eF cs=>some (.eF (cs.drop off))
 | _=>none
def tC(off n:Nat)(gK:Bool)(x:D):Option D:=
 match x with
 | .agg cs=>if gK then(if off+n≤cs.length then some (.agg ((cs.drop off).take n))else none)else cs[off]?
 | _=>none
def ly(sz:Nat)(x i:D):Option D:=
 match x,i with
 | .sl fh es,.val (.int _ n)=>if fh=sz∧0≤n∧n<es.length then some (.eF (es.getD n.toNat []))else none
 | .et v g fh off len,.val (.int _ n)=>if fh=sz∧0≤n∧n<len then some (.ptr v g ((off+n.toNat)*sz))else none
 | _,_=>none
def yB(sz n:Nat)(x i:D):Option D:=
 match x,i with
 | .ptr v g o,.val (.int _ k)=>if 0≤k∧k<n then some (.ptr v g (o+k.toNat*sz))else none
 | .eF cs,.val (.int _ k)=>if 0≤k∧k<n then some (.eF (cs.drop (k.toNat*sz)))else none
 | _,_=>none
def DB(sz n:Nat)(gK:Bool)(x i:D):Option D:=
 match x,i with
 | .agg cs,.val (.int _ k)=>if 0≤k∧k<n then tC (k.toNat*sz) sz gK (.agg cs)else none
 | _,_=>none
def G1(x i:D):Option D:=
 match x,i with
 | .val (.string s),.val (.int _ k)=>if 0≤k∧k<s.size then some (.val (.int .u8 ((s.data.toList.getD k.toNat 0).toNat)))else none
 | _,_=>none
def um(nJ:KK)(z:D)(ok:Bool)(m k:D)(H:U):Option D:=
 match m,keyOf k with
 | .omap v,some kv=>match kc H v with
  | some (kk,es)=>if kk=nJ∧kk.has kv=true then(match mq es kv with
    | some d=>some (if ok then .tup [d,.val (.bool true)]else d)
    | none=>some (if ok then .tup [z,.val (.bool false)]else z))else none
  | none=>none
 | _,_=>none
def sN(nJ:KK)(m k x:D)(H:U):R:=
 match m,keyOf k with
 | .omap v,some kv=>match kc H v with
  | some (kk,es)=>if kk=nJ∧kk.has kv=true then some (.any,.obj v (.map kk (kG es kv x)))else none
  | none=>none
 | _,_=>none
def CO(x:D)(i:Nat):Option D:=
 match x with
 | .tup ds=>ds[i]?
 | _=>none
def vZ(t sz bytes:Nat)(z:List D)(l c:D)(v:Nat):R:=
 match l,c with
 | .val (.int _ n),.val (.int _ m)=>if 0≤n∧n≤m∧mm m 9223372036854775807∧mm ((bytes:Int)*m) 281474976710656 then some (.et v 0 sz 0 n.toNat,.new (.row t 0 (List.replicate m.toNat z).flatten))else none
 | _,_=>none
def pI(env:e9)(sz:Nat)(x:D)(lo hi:Option X):Option D:=
 match x with
 | .sl fh es=>match gE env lo 0,gE env hi es.length with
  | some l,some h=>if fh=sz∧0≤l∧l≤h∧h≤es.length then some (.sl sz ((es.drop l.toNat).take (h.toNat-l.toNat)))else none
  | _,_=>none
 | .et v g fh off len=>match gE env lo 0,gE env hi len with
  | some l,some h=>if fh=sz∧0≤l∧l≤h∧h≤len then some (.et v g sz (off+l.toNat) (h.toNat-l.toNat))else none
  | _,_=>none
 | .emp=>match gE env lo 0,gE env hi 0 with
  | some l,some h=>if l=0∧h=0 then some .emp else none
  | _,_=>none
 | _=>none
def Et(env:e9)(x:D)(lo hi:Option X):Option D:=
 match x with
 | .val (.string s)=>match gE env lo 0,gE env hi s.size with
  | some l,some h=>if 0≤l∧l≤h∧h≤s.size then some (.val (.string (s.extract l.toNat h.toNat)))else none
  | _,_=>none
 | _=>none
def o4(t sz bytes:Nat)(x y:D)(H:U)(vn:Nat):R:=
 match jt sz H y with
 | some (ys,n)=>match x with
  | .et v g fh off len=>match rowAt H v g with
   | some (t',cs)=>if fh=sz∧t'=t∧(off+len)*sz≤cs.length∧(len+n)*bytes≤140737488355328∧len+n≤9223372036854775807 then
     some (.et v (g+1) sz 0 (len+n),.obj v (.row t (g+1) ((cs.drop (off*sz)).take (len*sz)++ys)))else none
   | none=>none
  | .emp=>if n=0 then some (.emp,.no)else if n*bytes≤140737488355328∧n≤9223372036854775807 then some (.et vn 0 sz 0 n,.new (.row t 0 ys))else none
  | _=>none
 | none=>none
def vi(sz:Nat)(x y:D)(H:U):R:=
 match x,jt sz H y with
 | .et v g fh off len,some (ys,n)=>match rowAt H v g with
  | some (t,cs)=>if fh=sz∧(off+len)*sz≤cs.length then
    some (.val (.int .i64 (min n len:Nat)),.obj v (.row t g (cs.take (off*sz)++ys.take (min n len*sz)++cs.drop (off*sz+min n len*sz))))else none
  | none=>none
 | .emp,some _=>some (.val (.int .i64 0),.no)
 | _,_=>none
def mn(k:s7)(x:D)(H:U):Option D:=
 match k,x with
 | .slice,.sl _ es=>some (.val (.int .i64 es.length))
 | .slice,.emp=>some (.val (.int .i64 0))
 | .slice,.et _ _ _ _ len=>some (.val (.int .i64 len))
 | .string,.val (.string s)=>some (.val (.int .i64 s.size))
 | .map,.omap v=>match kc H v with
  | some (_,es)=>some (.val (.int .i64 es.length))
  | none=>none
 | _,_=>none
def vY(env:e9)(isMax:Bool)(xs:List X):Option D:=
 match mK env xs with
 | some [a,b]=>some (.val (.int .i64 (if isMax then max a b else min a b)))
 | some [a,b,c]=>some (.val (.int .i64 (if isMax then max (max a b) c else min (min a b) c)))
 | _=>none
def uz(x:D):Option D:=
 match x with
 | .ptr v g o=>some (.ptr v g o)
 | .eF cs=>some (.eF cs)
 | .fn (.func f) a b=>some (.fn (.func f) a b)
 | .gv v=>some (.gv v)
 | _=>none
def Cy(k:IntKind)(x:D):Option D:=
 match x with
 | .val (.int _ n)=>some (.val (.int k (k.wrap n)))
 | _=>none
def vd(x:D)(H:U):Option D:=
 match jt 1 H x with
 | some (ys,_)=>match bytesOf ys with
  | some ns=>some (.val (.string (ns.foldl (fun r n=>r.push (UInt8.ofNat n.toNat)) ByteArray.empty)))
  | none=>none
 | none=>none
def lift:Option D→R
 | some d=>some (d,.no)
 | none=>none
def eX(env:e9)(H:U)(n:Nat):fR→R
 | .mv x=>lift (some (ev env x))
 | .pick c a b=>lift (uE (ev env c) (ev env a) (ev env b))
 | .box t x=>mT t (ev env x) n
 | .alloc t z=>some (.ptr n 0 0,.new (.row t 0 z))
 | .build z ps=>lift (ve env z ps)
 | .buildSl t sz z m ps=>rS env t sz z m ps n
 | .ld1 x=>lift (qp (ev env x) H)
 | .ldN m x=>lift (qq m (ev env x) H)
 | .st1 a x=>uQ (ev env a) (ev env x) H
 | .stN m a x=>uR m (ev env a) (ev env x) H
 | .nilck x=>lift (uz (ev env x))
 | .arith op x y=>lift (iZ op (ev env x) (ev env y))
 | .eqS gK ls neg x y=>lift (tv gK ls neg (ev env x) (ev env y))
 | .un op x=>lift (zO op (ev env x))
 | .conv k x=>lift (Cy k (ev env x))
 | .b2s x=>lift (vd (ev env x) H)
 | .mkfn f first cap=>lift (some (.fn f (first.map (ev env)) (cap.map (ev env))))
 | .mkmap kk=>some (.omap n,.new (.map kk []))
 | .mksl t sz bytes z l c=>vZ t sz bytes z (ev env l) (ev env c) n
 | .slc sz x lo hi=>lift (pI env sz (ev env x) lo hi)
 | .slcS x lo hi=>lift (Et env (ev env x) lo hi)
 | .fieldA off x=>lift (xK off (ev env x))
 | .field off m gK x=>lift (tC off m gK (ev env x))
 | .idxA sz x i=>lift (ly sz (ev env x) (ev env i))
 | .idxArr sz m x i=>lift (yB sz m (ev env x) (ev env i))
 | .idx sz m gK x i=>lift (DB sz m gK (ev env x) (ev env i))
 | .idxStr x i=>lift (G1 (ev env x) (ev env i))
 | .lookup kk z ok m k=>lift (um kk z ok (ev env m) (ev env k) H)
 | .mapUpd kk m k x=>sN kk (ev env m) (ev env k) (ev env x) H
 | .ext x i=>lift (CO (ev env x) i)
 | .call _ _ | .callN _ _ | .callv _ _=>none
 | .app t sz bytes x y=>o4 t sz bytes (ev env x) (ev env y) H n
 | .copy sz x y=>vi sz (ev env x) (ev env y) H
 | .len k x=>lift (mn k (ev env x) H)
 | .minmax isMax xs=>lift (vY env isMax xs)
 | .nilS .. | .capE .. | .appZ .. | .clr .. | .rangeS .. | .nextS .. | .rangeM .. | .nextM .. | .entry .. => none
section
variable{env:e9}{H:U}{al:Al}{d:D}{δ:Dl}{K:gN}
theorem YF{a b c:D}(h:uE a b c=some d)(hk:K d H):y7 a b c H K:=by
 unfold uE at h
 unfold y7
 (repeat' split at h)<;>simp_all
theorem Tg{x:D}(h:qp x H=some d)(hk:K d H):yH x H K:=by
 unfold qp at h
 unfold yH
 (repeat' split at h)<;>simp_all
theorem Th{n:Nat}{x:D}(h:qq n x H=some d)(hk:K d H):yI n x H K:=by
 unfold qq at h
 unfold yI
 (repeat' split at h)<;>simp_all
theorem Ou{z:List D}{ps:List (Nat×Nat×X)}(h:ve env z ps=some d)(hk:K d H):tc env z ps H K:=by
 unfold ve at h
 unfold tc
 (repeat' split at h)<;>simp_all
theorem T0{x:D}(h:uz x=some d)(hk:K d H):yW x H K:=by
 unfold uz at h
 unfold yW
 (repeat' split at h)<;>simp_all
theorem Z7{op:UnOp}{x:D}(h:zO op x=some d)(hk:K d H):zN op x H K:=by
 unfold zO at h
 unfold zN
 (repeat' split at h)<;>simp_all
theorem Pt{b:Bool}{ls:List lB}{neg:Bool}{x y:D}(h:tv b ls neg x y=some d)(hk:K d H):se b ls neg x y H K:=by
 unfold tv at h
 unfold se
 (repeat' split at h)<;>simp_all
theorem O6{k:IntKind}{x:D}(h:Cy k x=some d)(hk:K d H):xy k x H K:=by
 unfold Cy at h
 unfold xy
 (repeat' split at h)<;>simp_all
theorem Of{x:D}(h:vd x H=some d)(hk:K d H):xg x H K:=by
 unfold vd at h
 unfold xg
 (repeat' split at h)<;>simp_all
theorem ZC{sz:Nat}{x:D}{lo hi:Option X}(h:pI env sz x lo hi=some d)(hk:K d H):zA env sz x lo hi H K:=by
 unfold pI at h
 unfold zA
 (repeat' split at h)<;>simp_all
theorem ZB{x:D}{lo hi:Option X}(h:Et env x lo hi=some d)(hk:K d H):wz env x lo hi H K:=by
 unfold Et at h
 unfold wz
 (repeat' split at h)<;>simp_all
theorem PY{off:Nat}{x:D}(h:xK off x=some d)(hk:K d H):xJ off x H K:=by
 unfold xK at h
 unfold xJ
 (repeat' split at h)<;>simp_all
theorem Kk{off n:Nat}{b:Bool}{x:D}(h:tC off n b x=some d)(hk:K d H):tB off n b x H K:=by
 unfold tC at h
 unfold tB
 (repeat' split at h)<;>simp_all
theorem SC{sz:Nat}{x i:D}(h:ly sz x i=some d)(hk:K d H):yz sz x i H K:=by
 unfold ly at h
 unfold yz
 (repeat' split at h)<;>simp_all
theorem SD{sz n:Nat}{x i:D}(h:yB sz n x i=some d)(hk:K d H):yA sz n x i H K:=by
 unfold yB at h
 unfold yA
 (repeat' split at h)<;>simp_all
theorem SE{x i:D}(h:G1 x i=some d)(hk:K d H):yD x i H K:=by
 unfold G1 at h
 unfold yD
 (repeat' split at h)<;>simp_all
theorem TC{kk:KK}{z:D}{ok:Bool}{m k:D}(h:um kk z ok m k H=some d)(hk:K d H):yL kk z ok m k H K:=by
 unfold um at h
 unfold yL
 split at h
 ·split at h
  ·split at h
   ·rename_i hc
    obtain⟨rfl,hc⟩:=hc
    simp only[*,true_and]
    split at h
    ·rename_i heq;cases h;simp only[heq];exact hk
    ·rename_i heq;cases h;simp only[heq];exact hk
   ·cases h
  ·cases h
 ·cases h
theorem Pv{x:D}{i:Nat}(h:CO x i=some d)(hk:K d H):xI x i H K:=by
 unfold CO at h
 unfold xI
 (repeat' split at h)<;>simp_all
theorem Ts{k:s7}{x:D}(h:mn k x H=some d)(hk:K d H):yJ k x H K:=by
 unfold mn at h
 unfold yJ
 (repeat' split at h)<;>simp_all
theorem TQ{b:Bool}{xs:List X}(h:vY env b xs=some d)(hk:K d H):yS env b xs H K:=by
 unfold vY at h
 unfold yS
 (repeat' split at h)<;>simp_all
theorem N9{op:BinOp}{k:IntKind}{a b:Int}(h:ic op k a b=some d)(hk:K d H):xe op k a b H K:=by
 unfold ic at h
 unfold xe
 (repeat' split at h)<;>simp_all
theorem Zx{op:BinOp}{k:IntKind}{a b:Int}(h:H7 op k a b=some d)(hk:K d H):zz op k a b H K:=by
 unfold H7 at h
 unfold zz
 (repeat' split at h)<;>simp_all
theorem Z1{op:BinOp}{a b:ByteArray}(h:wE op a b=some d)(hk:K d H):EC op a b H K:=by
 unfold wE at h
 unfold EC
 (repeat' split at h)<;>simp_all [mm]
theorem Oo{t:TypeId}{x:D}(h:mT t x al.1=some (d,δ))(hk:K d (δ.app H al)):xj t x al K:=by
 unfold mT at h
 unfold xj
 (repeat' split at h)<;>cases h<;>simp_all [Dl.app]
theorem Ot{t sz:Nat}{z:List D}{m:Nat}{ps:List (Nat×X)}(h:rS env t sz z m ps al.1=some (d,δ))(hk:K d (δ.app H al)):xk env t sz z m ps al K:=by
 unfold rS at h
 unfold xk
 (repeat' split at h)<;>cases h<;>simp_all [Dl.app]
theorem zp{v g:Nat}{x:TypeId×List D}(h:rowAt H v g=some x):H[v]? = some (.row x.1 g x.2):=by
 unfold rowAt at h
 split at h
 ·split at h
  ·rename_i e;subst e;cases h;assumption
  ·cases h
 ·cases h
theorem ZZ{a x:D}(h:uQ a x H=some (d,δ))(hk:K d (δ.app H al)):zC a x H K:=by
 unfold uQ at h
 unfold zC
 split at h
 ·split at h
  ·rename_i v g o _ t cs fu
   split at h
   ·rename_i hc
    cases h
    simp only[fu]
    refine⟨hc.1,hc.2,?_⟩
    simp only[Dl.app,zp fu]at hk
    have e:cs.set o x=cs.take o ++ [x]++cs.drop (o + [x].length):=by
     rw[cm,if_pos hc.1];simp
    rw[e]
    exact hk
   ·cases h
  ·cases h
 ·cases h
theorem Z0{n:Nat}{a x:D}(h:uR n a x H=some (d,δ))(hk:K d (δ.app H al)):zD n a x H K:=by
 unfold uR at h
 unfold zD
 split at h
 ·split at h
  ·rename_i v g o xs _ _ t cs fu
   split at h
   ·rename_i hc
    cases h
    simp only[*]
    refine⟨trivial,trivial,?_⟩
    simp only[Dl.app,zp fu]at hk
    rw[hc.1]at hk
    exact hk
   ·cases h
  ·cases h
 ·cases h
theorem TS{t sz bytes:Nat}{z:List D}{l c:D}(h:vZ t sz bytes z l c al.1=some (d,δ))(hk:K d (δ.app H al)):yT t sz bytes z l c al K:=by
 unfold vZ at h
 unfold yT
 (repeat' split at h)<;>cases h<;>simp_all [Dl.app,mm]
theorem TO{kk:KK}{m k x:D}(h:sN kk m k x H=some (d,δ))(hk:K d (δ.app H al)):yO kk m k x H K:=by
 unfold sN at h
 unfold yO
 split at h
 ·split at h
  ·split at h
   ·rename_i hc
    obtain⟨rfl,hc⟩:=hc
    cases h
    simp only[*,true_and]
    exact hk
   ·cases h
  ·cases h
 ·cases h
theorem N8{t sz bytes:Nat}{x y:D}(h:o4 t sz bytes x y H al.1=some (d,δ))(hk:K d (δ.app H al)):xd t sz bytes x y H al K:=by
 unfold o4 at h
 unfold xd
 (repeat' split at h)<;>cases h<;>simp_all [Dl.app]
theorem O8{sz:Nat}{x y:D}(h:vi sz x y H=some (d,δ))(hk:K d (δ.app H al)):xC sz x y H K:=by
 unfold vi at h
 unfold xC
 (repeat' split at h)<;>cases h<;>simp_all [Dl.app]
theorem Oi{op:BinOp}{x y:D}(h:iZ op x y=some d)(hk:K d H):xi op x y H K:=by
 unfold iZ at h
 unfold xi
 split at h
 ·split at h
  ·rename_i hs;simp only[hs,if_true];exact Zx h hk
  ·rename_i hs
   simp only[hs]
   split at h
   ·rename_i e;exact⟨e,N9 h hk⟩
   ·cases h
 ·exact Z1 h hk
 ·cases h
theorem SF{sz n:Nat}{b:Bool}{x i:D}(h:DB sz n b x i=some d)(hk:K d H):yC sz n b x i H K:=by
 unfold DB at h
 unfold yC
 split at h
 ·split at h
  ·rename_i hc;exact⟨hc,Kk h hk⟩
  ·cases h
 ·cases h
theorem jC{o:Option D}(h:lift o=some (d,δ)):o=some d∧δ = .no:=by
 cases o<;>simp[lift]at h
 exact⟨by rw[h.1],h.2.symm⟩
theorem Jt{io:fR}(h:eX env H al.1 io=some (d,δ))(hk:K d (δ.app H al)):xc env H al K io:=by
 cases io<;>simp only[eX]at h<;>simp only[xc]
 case mv=>obtain⟨h2,rfl⟩:=jC h;cases h2;exact hk
 case mkfn=>obtain⟨h2,rfl⟩:=jC h;cases h2;exact hk
 case alloc=>cases h;exact hk
 case mkmap=>cases h;exact hk
 case call=>cases h
 case callN=>cases h
 case callv=>cases h
 case nilS=>cases h
 case capE=>cases h
 case appZ=>cases h
 case clr=>cases h
 case rangeS=>cases h
 case nextS=>cases h
 case rangeM=>cases h
 case nextM=>cases h
 case entry=>cases h
 case box=>exact Oo h hk
 case buildSl=>exact Ot h hk
 case st1=>exact ZZ h hk
 case stN=>exact Z0 h hk
 case mksl=>exact TS h hk
 case mapUpd=>exact TO h hk
 case app=>exact N8 h hk
 case copy=>exact O8 h hk
 case pick=>obtain⟨h2,rfl⟩:=jC h;exact YF h2 hk
 case build=>obtain⟨h2,rfl⟩:=jC h;exact Ou h2 hk
 case ld1=>obtain⟨h2,rfl⟩:=jC h;exact Tg h2 hk
 case ldN=>obtain⟨h2,rfl⟩:=jC h;exact Th h2 hk
 case nilck=>obtain⟨h2,rfl⟩:=jC h;exact T0 h2 hk
 case arith=>obtain⟨h2,rfl⟩:=jC h;exact Oi h2 hk
 case eqS=>obtain⟨h2,rfl⟩:=jC h;exact Pt h2 hk
 case un=>obtain⟨h2,rfl⟩:=jC h;exact Z7 h2 hk
 case conv=>obtain⟨h2,rfl⟩:=jC h;exact O6 h2 hk
 case b2s=>obtain⟨h2,rfl⟩:=jC h;exact Of h2 hk
 case slc=>obtain⟨h2,rfl⟩:=jC h;exact ZC h2 hk
 case slcS=>obtain⟨h2,rfl⟩:=jC h;exact ZB h2 hk
 case fieldA=>obtain⟨h2,rfl⟩:=jC h;exact PY h2 hk
 case field=>obtain⟨h2,rfl⟩:=jC h;exact Kk h2 hk
 case idxA=>obtain⟨h2,rfl⟩:=jC h;exact SC h2 hk
 case idxArr=>obtain⟨h2,rfl⟩:=jC h;exact SD h2 hk
 case idx=>obtain⟨h2,rfl⟩:=jC h;exact SF h2 hk
 case idxStr=>obtain⟨h2,rfl⟩:=jC h;exact SE h2 hk
 case lookup=>obtain⟨h2,rfl⟩:=jC h;exact TC h2 hk
 case ext=>obtain⟨h2,rfl⟩:=jC h;exact Pv h2 hk
 case len=>obtain⟨h2,rfl⟩:=jC h;exact Ts h2 hk
 case minmax=>obtain⟨h2,rfl⟩:=jC h;exact TQ h2 hk
end
end Go.AL
namespace Go.AL
open Go
mutual
def flat:D→Bool
 | .any | .val _ | .emp=>true
 | .agg cs | .tup cs=>p8 cs
 | .sl _ es=>es.isEmpty
 | _=>false
def p8:List D→Bool
 | []=>true
 | d::ds=>flat d&&p8 ds
end
def chunks(sz:Nat):Nat→List D→List (List D)
 | 0,_=>[]
 | n+1,cs=>cs.take sz::chunks sz n (cs.drop sz)
def eB(ρ:Nat→Option Nat)(H:U):Nat→D→D
 | 0,d=>if closed d then d else .any
 | k+1,d=>if closed d then d else match d with
  | .agg cs=>.agg (cs.map (eB ρ H k))
  | .tup cs=>.tup (cs.map (eB ρ H k))
  | .sl sz es=>.sl sz (es.map (·.map (eB ρ H k)))
  | .eF cs=>.eF (cs.map (eB ρ H k))
  | .fn f a b=>.fn f (a.map (eB ρ H k)) (b.map (eB ρ H k))
  | .et v g sz off len=>match ρ v with
   | some v'=>.et v' g sz off len
   | none=>match rowAt H v g with
    | some (_,cs)=>if (off+len)*sz≤cs.length then .sl sz (chunks sz len ((cs.drop (off*sz)).map (eB ρ H k)))else .any
    | none=>.any
  | .ptr v g off=>match ρ v with
   | some v'=>.ptr v' g off
   | none=>match rowAt H v g with
    | some (_,cs)=>.eF ((cs.drop off).map (eB ρ H k))
    | none=>.any
  | .omap v=>match ρ v with
   | some v'=>.omap v'
   | none=>.any
  | .gv v=>match ρ v with
   | some v'=>.gv v'
   | none=>.any
  | d=>d
def lz(ρ:Nat→Option Nat)(H:U):Ob→Ob
 | .row t g cs=>.row t g (cs.map (eB ρ H 40))
 | .map kk es=>.map kk (es.map fun x=>(x.1,eB ρ H 40 x.2))
 | .fy rf env st=>.fy rf (env.map fun x=>(x.1,eB ρ H 40 x.2)) st
 | .nM s p=>.nM s p
 | .jD m since seen=>.jD (eB ρ H 40 m) since seen
 | .jv=>.jv
 | .dead=>.dead
 | .hole=>.dead
abbrev ke:=List (Nat×Bool)
def fO(ks:ke)(v:Nat):Option Nat:=ks.findIdx? (fun p=>p.2&&p.1 == v)
def mP(ks:ke)(H:U):U:=ks.map fun p=>if p.2 then(match H[p.1]? with|some o=>lz (fO ks) H o|none=>.dead)else .dead
def gx(n:Nat):D→List Nat
 | .et v _ _ _ _=>if n≤v then [v]else []
 | .ptr v _ _=>if n≤v then [v]else []
 | .omap v=>if n≤v then [v]else []
 | .gv v=>if n≤v then [v]else []
 | _=>[]
def lM(n:Nat):Ob→List Nat
 | .row _ _ cs=>(cs.map (gx n)).flatten
 | .map _ es=>(es.map fun x=>gx n x.2).flatten
 | _=>[]
def dedup:List Nat→List Nat
 | []=>[]
 | x::r=>if x∈r then dedup r else x::dedup r
def gu(n:Nat)(K:List Nat):ke:=((List.range n).map fun v=>(v,true))++K.map fun v=>(v,true)
def forget(live:List Nat)(env:Env):Env:=live.map fun k=>(k,env.get k)
structure St where
 env:Env
 H:U
 marks:List Nat:=[]
 fM:Bool:=false
 deriving Inhabited
def cut(n:Nat)(live:List Nat)(s:St):St:=
 let env:=forget live s.env
 if s.H.length≤n then{ s with env:=env }else
 let K:=dedup (((env.map fun p=>gx n p.2).flatten++((s.H.take n).map (lM n)).flatten++s.marks.filter (n≤·)).filter (· < s.H.length))
 let ks:=gu n K
 { s with env:=env.map fun p=>(p.1,eB (fO ks) s.H 40 p.2),H:=mP ks s.H,marks:=s.marks.map fun v=>(fO ks v).getD v }
def wg(n:Nat):D→List Nat
 | .et v _ _ 0 _=>if n≤v then [v]else []
 | .tup ds=>(ds.map fun d=>match d with | .et v _ _ 0 _=>if n≤v then [v]else []|_=>[]).flatten
 | _=>[]
inductive IR where
 | skip
 | ops (l:List eV)
 | draw (gJ:List (Nat×Nat)) (l:List eV)
 | jG (gJ:List (Nat×Nat)) (l es:List eV)
 | seq (a b:IR)
 | cond (c:X) (a b:IR)
 | block (id:Nat) (live:List Nat) (a:IR)
 | loop (live:List Nat) (a:IR)
 | jQ (rf:Nat) (live:List Nat) (x:X)
 | exit (id:Nat)
 | ret
 | bad
 | fz (S:List Nat) (a:IR)
 | pa (S:List Nat) (a b:List eV)
 deriving Inhabited
inductive pS where
 | tmp (t:Nat)
 | rU (t:Nat)
 | jz (n t:Nat)
 deriving Inhabited
structure ey where
 ntmps:Nat
 body:IR
 results:List pS
 full:Bool:=false
 own:Nat:=0
 fz:Bool:=false
 deriving Inhabited
def wu(s:St):pS→Option D
 | .tmp t=>some (s.env.get t)
 | .rU t=>qp (s.env.get t) s.H
 | .jz n t=>qq n (s.env.get t) s.H
def oV(s:St):List pS→Option (List D)
 | []=>some []
 | x::r=>match wu s x,oV s r with
  | some d,some l=>some (d::l)
  | _,_=>none
def results(fn:ey)(s:St):Option D:=match oV s fn.results with
 | some [d]=>some d
 | some ds=>some (.tup ds)
 | none=>none
def om(args:List D):Env:=args.zipIdx.map fun p=>(p.2,p.1)
def oz:List Nat→List D→Env→Env
 | k::ks,d::ds,env=>oz ks ds ((k,d)::env)
 | _,_,env=>env
def im(env:e9):fR→Option (FuncId×List D)
 | .call f args=>some (f,args.map (ev env))
 | .callN f args=>some (f,args.map (ev env))
 | .callv f args=>match ev env f with
  | .fn (.func k) first cap=>some (k,first++args.map (ev env)++cap)
  | _=>none
 | _=>none
def yE:fR→Bool
 | .call _ _ | .callN _ _ | .callv _ _=>true
 | _=>false
def guardOf(env:e9):Option (Nat×Bool)→Option Bool
 | none=>some true
 | some (s,want)=>match env s with
  | .val (.bool b)=>some (b == want)
  | .val (.tuple _)=>some false
  | _=>none
def rn(n:Nat):D→D
 | .et v g sz off len=>.et (v+n) g sz off len
 | d=>d
def ix(n:Nat):D→D
 | .et v g sz off len=>.et (v+n) g sz off len
 | .tup ds=>.tup (ds.map (rn n))
 | .agg ds=>.agg (ds.map (rn n))
 | d=>d
def kO:Ob→Bool
 | .row _ _ cs=>eT cs
 | _=>false
def lT:Ob→Bool
 | .row _ _ cs=>p8 cs
 | _=>false
def ry(p:D→Bool):D→Bool
 | .et .. => true
 | d=>p d
def qv(p:D→Bool):D→Bool
 | .et .. => true
 | .tup ds=>ds.all (ry p)
 | .agg ds=>ds.all (ry p)
 | d=>p d
def jP:D→Bool:=qv closed
def lN:D→Bool:=qv flat
def rowsOf(H:U)(v:Nat):Option (TypeId×Nat×List D):=match H[v]? with
 | some (.row t g cs)=>some (t,g,cs)
 | _=>none
def fw(H:U):Nat→D→List Nat
 | 0,_=>[]
 | k+1,d=>if closed d then []else match d with
  | .agg cs | .tup cs | .eF cs=>(cs.map (fw H k)).flatten
  | .sl _ es=>(es.map fun e=>(e.map (fw H k)).flatten).flatten
  | .fn _ a b=>(a.map (fw H k)).flatten++(b.map (fw H k)).flatten
  | .et v _ _ _ _ | .ptr v _ _=>v::(match rowsOf H v with
   | some (_,_,cs)=>(cs.map (fw H k)).flatten
   | none=>[])
  | .omap v | .gv v=>[v]
  | _=>[]
def leave(own:Nat)(n:Nat)(H:U)(d:D):D×U:=
 if H.length≤n then(d,H)else
 let K:=dedup (((match own with|0=>[]|1=>wg n d|3=>((fw H 40 d).filter (n≤·)).take 1|_=>(fw H 40 d).filter (n≤·))++((H.take n).map (lM n)).flatten).filter (· < H.length))
 let ks:=gu n K
 (eB (fO ks) H 40 d,mP ks H)
def jw(H:U)(S:List Nat):ke:=(List.range H.length).map fun v=>(v,!(S.contains v))
structure mb where
 params:List Nat
 a:IR
 b:IR
 deriving Inhabited
structure fE where
 fn:FuncId→Option ey
 round:Nat→Option mb:=fun _=>none
 sort:FuncId→Option Nat:=fun _=>none
 oC:FuncId→Bool:=fun _=>false
def after(s:St)(dst:Option Nat)(args:List D)(r:D)(Hn:U):Option St:=
 if (if eT args then jP r&&Hn.all kO else lN r&&Hn.all lT)then
  some { s with env:=put s.env dst (ix s.H.length r),H:=s.H++Hn }else none
def jh(S:List Nat)(s:St):St:=
 let ks:=jw s.H S
 { s with env:=s.env.map fun p=>(p.1,eB (fO ks) s.H 40 p.2),H:=mP ks s.H }
end Go.AL
namespace Go.AL
open Go
theorem qR{ds:List D}(h:eT ds=true){i:Nat}{d:D}(hd:ds[i]? = some d):closed d=true:=by
 induction ds generalizing i with
 | nil=>simp at hd
 | cons x xs ih=>
  simp only[eT,ah]at h
  cases i with
  | zero=>simp at hd;subst hd;exact h.1
  | succ i=>exact ih h.2 (by simpa using hd)
theorem ON{es:List (List D)}(h:vg es=true){i:Nat}{e:List D}(he:es[i]? = some e):eT e=true:=by
 induction es generalizing i with
 | nil=>simp at he
 | cons x xs ih=>
  simp only[vg,ah]at h
  cases i with
  | zero=>simp at he;subst he;exact h.1
  | succ i=>exact ih h.2 (by simpa using he)
theorem eu.closed{c c':Ctx}{w:World}(hF:∀ b,c.F b→c'.F b){u:Value}{d:D}(h:eu c w u d)(hc:closed d=true):eu c' w u d:=by
 induction h with
 | any v=>exact .any _
 | val v=>exact .val _
 | agg vs ds hl h1 h ih=>exact .agg vs _ hl h1 fun i v d hv hd=>ih i v d hv hd (qR hc hd)
 | tup vs ds hl h ih=>exact .tup vs _ hl fun i v d hv hd=>ih i v d hv hd (qR hc hd)
 | sl a len cap sz es g hlen ie iF fL lL lX hr ih=>
  refine .sl a len cap sz _ g hlen ie iF fL lL ?_ fun i e j d he hd=>ih i e j d he hd (qR (ON hc he) hd)
  intro i e j d he hd
  obtain⟨b,o,ha,nV,tM,h1⟩:=lX i e j d he hd
  exact⟨b,o,ha,hF b nV,tM,h1⟩
 | emp=>exact .emp
 | et=>cases hc
 | kd=>cases hc
 | ptr=>cases hc
 | eF b o cs g nV lX hr ih=>exact .eF b o _ g (hF b nV) lX fun j d hd=>ih j d hd (qR hc hd)
 | omap=>cases hc
 | fn f fs cs df dc iL ig h1 h2 ng oe=>
  simp only[AL.closed,ah]at hc
  exact .fn f fs cs _ _ iL ig (fun i v d hv hd=>ng i v d hv hd (qR hc.1 hd)) (fun i v d hv hd=>oe i v d hv hd (qR hc.2 hd))
 | gv=>cases hc
theorem vr{ds:List D}(h:p8 ds=true){i:Nat}{d:D}(hd:ds[i]? = some d):flat d=true:=by
 induction ds generalizing i with
 | nil=>simp at hd
 | cons x xs ih=>
  simp only[p8,ah]at h
  cases i with
  | zero=>simp at hd;subst hd;exact h.1
  | succ i=>exact ih h.2 (by simpa using hd)
theorem eu.flat{c c':Ctx}{w:World}{u:Value}{d:D}(h:eu c w u d)(hc:flat d=true):eu c' w u d:=by
 induction h with
 | any v=>exact .any _
 | val v=>exact .val _
 | agg vs ds hl h1 h ih=>exact .agg vs _ hl h1 fun i v d hv hd=>ih i v d hv hd (vr hc hd)
 | tup vs ds hl h ih=>exact .tup vs _ hl fun i v d hv hd=>ih i v d hv hd (vr hc hd)
 | sl a len cap sz es g hlen ie iF fL lL lX hr ih=>
  simp only[AL.flat,cp]at hc
  subst hc
  exact .sl a len cap sz _ g hlen ie iF (by simp) lL (by simp) (by simp)
 | emp=>exact .emp
 | et=>cases hc
 | kd=>cases hc
 | ptr=>cases hc
 | eF=>cases hc
 | omap=>cases hc
 | fn=>cases hc
 | gv=>cases hc
theorem JB(sz:Nat):∀ (n:Nat) (cs:List D),(chunks sz n cs).length=n
 | 0,_=>rfl
 | n+1,cs=>by simp[chunks,JB sz n]
theorem E7(sz:Nat):∀ (n:Nat) (cs:List D) (i:Nat) (e:List D),(chunks sz n cs)[i]? = some e→i<n∧e=(cs.drop (i*sz)).take sz
 | 0,_,i,e,h=>by simp[chunks]at h
 | n+1,cs,0,e,h=>by simp[chunks]at h;subst h;simp
 | n+1,cs,i+1,e,h=>by
  simp only[chunks,dL]at h
  obtain⟨h1,h2⟩:=E7 sz n _ i e h
  refine⟨by omega,?_⟩
  rw[h2,cS]
  congr 2
  rw[aV];omega
theorem ZA{c:Ctx}{w:World}{b o sz len cap:Nat}{vs:List Value}{ds:List D}(hF:c.F b)(hc:Cells c w vs ds)(hl:ds.length=len*sz)(ie:len≤cap)(iF:cap≤maxLen)
  (hv:∀ (j:Nat) (v:Value),vs[j]? = some v→w.cell? ⟨b,o+j,none⟩=some v):eu c w (.slice (some ⟨b,o,none⟩) len cap) (.sl sz (chunks sz len ds)):=by
 have gH:∀ (i:Nat) (e:List D) (j:Nat) (d:D),(chunks sz len ds)[i]? = some e→e[j]? = some d→ds[i*sz+j]? = some d∧j<sz:=by
  intro i e j d he hd
  obtain⟨_,rfl⟩:=E7 sz len ds i e he
  rw[ay]at hd
  split at hd
  ·rename_i hj;rw[aC]at hd;exact⟨hd,hj⟩
  ·cases hd
 refine .sl _ len cap sz _ (fun i j=>vs.getD (i*sz+j) undef) (JB _ _ _) ie iF ?_ (by simp) ?_ ?_
 ·intro e he
  obtain⟨i,hi⟩:=aD.1 he
  obtain⟨h1,rfl⟩:=E7 sz len ds i e hi
  simp only[aP,bk,hl]
  have:(i+1)*sz≤len*sz:=bh _ h1
  rw[aV]at this
  omega
 ·intro i e j d he hd
  obtain⟨h1,_⟩:=gH i e j d he hd
  obtain⟨v,kR,l3,_⟩:=hc.get h1
  refine⟨b,o,rfl,hF,?_,?_⟩
  ·simp only[List.getD,kR,aR];exact hv _ _ kR
  ·simp only[List.getD,kR,aR];exact l3
 ·intro i e j d he hd
  obtain⟨h1,_⟩:=gH i e j d he hd
  obtain⟨v,kR,_,GO⟩:=hc.get h1
  simp only[List.getD,kR,aR];exact GO
theorem Cells.map{c c':Ctx}{w:World}{f:D→D}(hr:∀ v d,eu c w v d→eu c' w v (f d)){vs:List Value}{cs:List D}(h:Cells c w vs cs):Cells c' w vs (cs.map f):=
 ⟨by simpa using h.len,h.one,fun i v d hv hd=>by
  simp only[ar,ai]at hd
  obtain⟨d0,iI,rfl⟩:=hd
  exact hr _ _ (h.rep i v d0 hv iI)⟩
def Ctx.eB(c:Ctx)(ks:ke)(H:U):Ctx where
 ι:=fun i g=>match ks[i]? with
  | some p=>c.ι p.1 g
  | none=>none
 F:=fun b=>c.F b∨∃ v L,jc c H v L∧fO ks v=none∧L.gM=false∧L.b=b
 RT:=c.RT
theorem Nh{ks:ke}{v i:Nat}(h:fO ks v=some i):ks[i]? = some (v,true):=by
 unfold fO at h
 rw[cY]at h
 obtain⟨hi,hp,_⟩:=h
 simp only[ah,beq_iff_eq]at hp
 rw[List.getElem?_eq_getElem hi]
 congr 1
 exact Prod.ext hp.2 hp.1
theorem Ng{ks:ke}{v:Nat}(h:fO ks v=none)(i:Nat):ks[i]?≠some (v,true):=by
 intro hi
 unfold fO at h
 rw[dD]at h
 have:=h _ (aY hi)
 simp at this
section
variable{G:GT}{c:Ctx}{H:U}{w:World}{ks:ke}
theorem wH{v i g:Nat}(h:fO ks v=some i):(c.eB ks H).ι i g=c.ι v g:=by simp[Ctx.eB,Nh h]
theorem u5{b:Nat}(h:c.F b):(c.eB ks H).F b:=Or.inl h
theorem Je{v:Nat}{L:Loc}(h1:jc c H v L)(h2:fO ks v=none)(h3:L.gM=false):(c.eB ks H).F L.b:=Or.inr ⟨v,L,h1,h2,h3,rfl⟩
theorem sO(h:eN G c H w):∀ (k:Nat) {u:Value} {d:D},eu c w u d→eu (c.eB ks H) w u (eB (fO ks) H k d)
 | 0,u,d,hr=>by
  unfold AL.eB
  split
  ·rename_i hc;exact hr.closed (fun b hb=>u5 hb) hc
  ·exact .any _
 | k+1,u,d,hr=>by
  have ih:=fun{u:Value} {d:D} (hr:eu c w u d)=>sO h k hr
  unfold AL.eB
  split
  ·rename_i hc;exact hr.closed (fun b hb=>u5 hb) hc
  ·cases hr with
   | any v=>exact .any _
   | val v=>exact .val _
   | agg vs ds hl h1 h2=>
     refine .agg vs _ (by simpa using hl) h1 fun i v d hv hd=>?_
     simp only[ar,ai]at hd
     obtain⟨d0,iI,rfl⟩:=hd
     exact ih (h2 i v d0 hv iI)
   | tup vs ds hl h2=>
     refine .tup vs _ (by simpa using hl) fun i v d hv hd=>?_
     simp only[ar,ai]at hd
     obtain⟨d0,iI,rfl⟩:=hd
     exact ih (h2 i v d0 hv iI)
   | sl a len cap sz es g hlen ie iF fL lL lX hr=>
    refine .sl a len cap sz _ g (by simpa using hlen) ie iF ?_ lL ?_ ?_
    ·intro e he
     simp only[aw]at he
     obtain⟨e0,xX,rfl⟩:=he
     simpa using fL e0 xX
    ·intro i e j d he hd
     simp only[ar,ai]at he
     obtain⟨e0,xX,rfl⟩:=he
     simp only[ar,ai]at hd
     obtain⟨d0,iI,rfl⟩:=hd
     obtain⟨b,o,ha,nV,tM,h1⟩:=lX i e0 j d0 xX iI
     exact⟨b,o,ha,u5 nV,tM,h1⟩
    ·intro i e j d he hd
     simp only[ar,ai]at he
     obtain⟨e0,xX,rfl⟩:=he
     simp only[ar,ai]at hd
     obtain⟨d0,iI,rfl⟩:=hd
     exact ih (hr i e0 j d0 xX iI)
   | emp=>exact .emp
   | et v g sz off len cap L eC hv ie iF jN=>
    dsimp only
    split
    ·rename_i v' jB
     exact .et v' g sz off len cap L (by rw[wH jB];exact eC) hv ie iF jN
    ·rename_i Gp
     split
     ·rename_i t cs fu
      split
      ·rename_i jL
       have rh:=oW fu
       obtain⟨arr,h1,h2,h3,h4⟩:=sR h rh eC hv
       have gC:=(((h4.drop (off*sz)).map (fun _ _ hr=>ih hr)).take (len*sz))
       have hlen:((cs.drop (off*sz)).map (AL.eB (fO ks) H k)).length=(cs.length-off*sz):=by simp
       have F':chunks sz len ((cs.drop (off*sz)).map (AL.eB (fO ks) H k))=chunks sz len (((cs.drop (off*sz)).map (AL.eB (fO ks) H k)).take (len*sz)):=by
        have key:∀ (n:Nat) (xs:List D),chunks sz n xs=chunks sz n (xs.take (n*sz)):=by
         intro n
         induction n with
         | zero=>intro xs;rfl
         | succ n ih=>
          intro xs
          simp only[chunks]
          rw[cT,Nat.min_eq_left (by rw[aV];omega),ih (xs.drop sz),List.drop_take,show(n+1)*sz-sz=n*sz by rw[aV];omega]
        exact key _ _
       rw[F']
       refine ZA (Je ⟨_,rh,rfl,eC⟩ Gp hv) gC ?_ ie iF fun j x hx=>?_
       ·rw[aP,hlen]
        rw[aV]at jL
        omega
       ·rw[ay]at hx
        split at hx
        ·rw[aC,ay]at hx
         split at hx
         ·rw[aC]at hx
          simp[World.cell?,h1]
          rw[bf]
          simpa using hx
         ·cases hx
        ·cases hx
      ·exact .any _
     ·exact .any _
   | kd v g sz off L eC a=>
    dsimp only
    split
    ·rename_i v' jB
     exact .kd v' g sz off L (by rw[wH jB];exact eC) a
    ·split
     ·split
      ·exact .sl a 0 0 sz _ (fun _ _=>undef) rfl (Nat.le_refl _) (by unfold maxLen;omega) (by simp[chunks]) (fun _=>rfl) (by simp[chunks]) (by simp[chunks])
      ·exact .any _
     ·exact .any _
   | ptr v g off L eC hv=>
    dsimp only
    split
    ·rename_i v' jB
     exact .ptr v' g off L (by rw[wH jB];exact eC) hv
    ·rename_i Gp
     split
     ·rename_i t cs fu
      have rh:=oW fu
      obtain⟨arr,h1,h2,h3,h4⟩:=sR h rh eC hv
      refine FH (Je ⟨_,rh,rfl,eC⟩ Gp hv) ⟨_,(h4.drop off).map (fun _ _ hr=>ih hr),fun j x hx=>?_⟩
      rw[aC,ay]at hx
      split at hx
      ·rw[aC]at hx
       simp[World.cell?,h1]
       rw[bf]
       simpa using hx
      ·cases hx
     ·exact .any _
   | eF b o cs g nV lX hr=>
    refine .eF b o _ g (u5 nV) ?_ ?_
    ·intro j d hd
     simp only[ar,ai]at hd
     obtain⟨d0,iI,rfl⟩:=hd
     exact lX j d0 iI
    ·intro j d hd
     simp only[ar,ai]at hd
     obtain⟨d0,iI,rfl⟩:=hd
     exact ih (hr j d0 iI)
   | omap v L eC hv=>
    dsimp only
    split
    ·rename_i v' jB;exact .omap v' L (by rw[wH jB];exact eC) hv
    ·exact .any _
   | fn f fs cs df dc iL ig h1 h2=>
    refine .fn f fs cs _ _ (by simpa using iL) (by simpa using ig) ?_ ?_
    ·intro i v d hv hd
     simp only[ar,ai]at hd
     obtain⟨d0,iI,rfl⟩:=hd
     exact ih (h1 i v d0 hv iI)
    ·intro i v d hv hd
     simp only[ar,ai]at hd
     obtain⟨d0,iI,rfl⟩:=hd
     exact ih (h2 i v d0 hv iI)
   | gv v L eC hv=>
    dsimp only
    split
    ·rename_i v' jB;exact .gv v' L (by rw[wH jB];exact eC) hv
    ·exact .any _
end
end Go.AL
namespace Go.AL
open Go
section
variable{G:GT}{c:Ctx}{H:U}{w:World}{ks:ke}
def s6(ks:ke):Prop:=∀ (i j:Nat) (p q:Nat×Bool),ks[i]? = some p→ks[j]? = some q→p.1=q.1→i=j
theorem HX{i:Nat}{o:Ob}(h:(mP ks H)[i]? = some o)(ha:o≠.dead):∃ v o0,ks[i]? = some (v,true)∧H[v]? = some o0∧o=lz (fO ks) H o0:=by
 unfold mP at h
 simp only[ar,ai]at h
 obtain⟨p,hp,he⟩:=h
 split at he
 ·rename_i hb
  split at he
  ·rename_i o0 Li
   exact⟨p.1,o0,by rw[hp,← hb],Li,he.symm⟩
  ·exact absurd he.symm ha
 ·exact absurd he.symm ha
theorem Nx{o:Ob}(h:(lz (fO ks) H o).alive=true):o.alive=true∧(lz (fO ks) H o).gen=o.gen:=by
 cases o<;>simp_all [lz,Ob.alive,Ob.gen]
theorem HP{v i:Nat}(hk:s6 ks)(h:ks[i]? = some (v,true)):fO ks v=some i:=by
 cases hr:fO ks v with
 | none=>exact absurd h (Ng hr i)
 | some j=>
  have:=Nh hr
  rw[hk i j _ _ h this rfl]
theorem DL{i:Nat}{L:Loc}(h:jc (c.eB ks H) (mP ks H) i L):∃ v,ks[i]? = some (v,true)∧jc c H v L:=by
 obtain⟨o,ho,ha,eC⟩:=h
 obtain⟨v,o0,h1,h2,rfl⟩:=HX ho (by intro e;subst e;cases ha)
 obtain⟨a1,a2⟩:=Nx ha
 refine⟨v,h1,o0,h2,a1,?_⟩
 rw[a2]at eC
 simpa[Ctx.eB,h1]using eC
theorem MX{b:Nat}(h:ju (c.eB ks H) (mP ks H) b):ju c H b:=by
 obtain⟨i,L,hl,hv,e⟩:=h
 obtain⟨v,_,h2⟩:=DL hl
 exact⟨v,L,h2,hv,e⟩
theorem wx(h:eN G c H w)(hk:s6 ks):eN G (c.eB ks H) (mP ks H) w where
 inj i j L L' h1 h2 h3 h4 he:=by
  obtain⟨v,k1,l1⟩:=DL h1
  obtain⟨v',k2,l2⟩:=DL h2
  have:=h.inj v v' L L' l1 l2 h3 h4 he
  subst this
  exact hk i j _ _ k1 k2 rfl
 lt b hb:=h.lt b (MX hb)
 nF b hb hF:=by
  obtain⟨i,L,hl,hv,e⟩:=hb
  obtain⟨v,k1,l1⟩:=DL hl
  rcases hF with hF|⟨v',L',l2,hn,jB,e'⟩
  ·exact h.nF b ⟨v,L,l1,hv,e⟩ hF
  ·have:=h.inj v v' L L' l1 l2 hv jB (e.trans e'.symm)
   subst this
   exact Ng hn i k1
 iz b hb:=by
  rcases hb with hb|⟨v,L,l,_,hv,e⟩
  ·exact h.iz b hb
  ·exact h.lt b ⟨v,L,l,hv,e⟩
 out i k hi:=by
  simp only[mP,List.length_map]at hi
  simp[Ctx.eB,aK hi]
 jx i o k ho hJ:=by
  have fF:o≠.dead:=by
   rintro rfl
   rcases hJ with hJ|⟨hJ,_⟩<;>cases hJ
  obtain⟨v,o0,h1,h2,rfl⟩:=HX ho fF
  rcases hJ with hJ|⟨ha,hg⟩
  ·cases o0<;>simp[lz]at hJ
  ·obtain⟨a1,a2⟩:=Nx ha
   have:=h.jx v o0 k h2 (.inr ⟨a1,by rw[← a2];exact hg⟩)
   simpa[Ctx.eB,h1]using this
 ob i o ho:=by
  by_cases fF:o = .dead
  ·subst fF;simp[fo]
  ·obtain⟨v,o0,h1,h2,rfl⟩:=HX ho fF
   have h0:=h.ob v o0 h2
   have eC:(c.eB ks H).ι i o0.gen=c.ι v o0.gen:=by simp[Ctx.eB,h1]
   have hr:∀ u d,eu c w u d→eu (c.eB ks H) w u (eB (fO ks) H 40 d):=fun u d hd=>sO h 40 hd
   cases o0 with
   | dead=>simp[lz,fo]
   | hole=>simp[lz,fo]
   | row t g cs=>
    simp only[lz,Ob.gen]at eC ⊢
    rw[eC]
    simp only[Ob.gen]at h0
    cases hL:c.ι v g with
    | none=>rw[hL]at h0;simp[fo]at h0
    | some L=>
     rw[hL]at h0
     simp only[fo]at h0 ⊢
     split
     ·rename_i hv;simp only[hv,if_true]at h0;simp[h0]
     ·rename_i hv
      simp only[hv]at h0
      obtain⟨arr,a1,a2,a3,a4⟩:=h0
      refine⟨arr,a1,a2,by simpa using a3,fun j d hd=>?_⟩
      simp only[ar,ai]at hd
      obtain⟨d0,iI,rfl⟩:=hd
      obtain⟨x,mi,jH,ri⟩:=a4 j d0 iI
      exact⟨x,mi,jH,hr _ _ ri⟩
   | map kk es=>
    simp only[lz,Ob.gen]at eC ⊢
    rw[eC]
    simp only[Ob.gen]at h0
    cases hL:c.ι v 0 with
    | none=>rw[hL]at h0;simp[fo]at h0
    | some L=>
     rw[hL]at h0
     simp only[fo]at h0 ⊢
     obtain⟨hv,jY,arr,clock,a1,a2,a3,a4⟩:=h0
     refine⟨hv,fun x hx=>?_,arr,clock,a1,by simpa using a2,fun j e x he hx=>?_,by simpa using a4⟩
     ·obtain⟨y,hy,rfl⟩:=aw.1 hx
      exact jY y hy
     ·simp only[ar,ai]at hx
      obtain⟨y,hy,rfl⟩:=hx
      obtain⟨p,q,r⟩:=a3 j e y he hy
      exact⟨p,hr _ _ q,r⟩
   | fy rf env st=>
    simp only[lz,Ob.gen]at eC ⊢
    rw[eC]
    simp only[Ob.gen]at h0
    cases hL:c.ι v 0 with
    | none=>rw[hL]at h0;simp[fo]at h0
    | some L=>
     rw[hL]at h0
     simp only[fo]at h0 ⊢
     obtain⟨hv,r,a1,a2,a3,a4⟩:=h0
     refine⟨hv,r,a1,fun k=>?_,a3,a4⟩
     have key:∀ (env:Env) (k:Nat),(Env.get (env.map fun x=>(x.1,eB (fO ks) H 40 x.2)) k)=eB (fO ks) H 40 (env.get k):=by
      intro env k
      induction env with
      | nil=>rfl
      | cons p r ih=>
       obtain⟨j,d⟩:=p
       simp only[List.map_cons,Env.p9]
       split
       ·rfl
       ·exact ih
     rw[key]
     exact hr _ _ (a2 k)
   | nM s p=>
    simp only[lz,Ob.gen]at eC ⊢
    rw[eC]
    simp only[Ob.gen]at h0
    cases hL:c.ι v 0 with
    | none=>rw[hL]at h0;simp[fo]at h0
    | some L=>
     rw[hL]at h0
     simpa only[fo]using h0
   | jD m since seen=>
    simp only[lz,Ob.gen]at eC ⊢
    rw[eC]
    simp only[Ob.gen]at h0
    cases hL:c.ι v 0 with
    | none=>rw[hL]at h0;simp[fo]at h0
    | some L=>
     rw[hL]at h0
     simp only[fo]at h0 ⊢
     obtain⟨a1,a2,bm,a3,a4⟩:=h0
     exact⟨a1,a2,bm,hr _ _ a3,a4⟩
   | jv=>
    simp only[lz,Ob.gen]at eC ⊢
    rw[eC]
    simp only[Ob.gen]at h0
    cases hL:c.ι v 0 with
    | none=>rw[hL]at h0;simp[fo]at h0
    | some L=>
     rw[hL]at h0
     simpa only[fo]using h0
 gl g cs hg:=by
  obtain⟨h1,h2⟩:=h.gl g cs hg
  exact⟨h1,h2.closed (fun b hb=>u5 hb) (by simpa[AL.closed]using h1)⟩
 rt:=h.rt
theorem H6(h:eN G c H w){n:Nat}(hn:∀ v,v<n→(ks[v]?).map (·.1)=some v):Step n c H w (c.eB ks H) (mP ks H) w where
 os:=⟨rfl,Nat.le_refl _⟩
 tape:=rfl
 output:=rfl
 size:=Nat.le_refl _
 RT:=rfl
 Fm b hb:=u5 hb
 Fn b hb:=by
  rcases hb with hb|⟨v,L,l,_,hv,e⟩
  ·exact .inl hb
  ·exact .inr (.inr ⟨v,L,l,hv,e⟩)
 kept _ _ _:=rfl
 old v k L hv eC:=by
  have:=hn v hv
  simp only[ai]at this
  obtain⟨p,hp,e⟩:=this
  simp only[Ctx.eB,hp,e]
  exact eC
 own b hb:=.inr (MX hb)
theorem Qe(env:Env)(k:Nat):(Env.get (env.map fun x=>(x.1,eB (fO ks) H 40 x.2)) k)=eB (fO ks) H 40 (env.get k):=by
 induction env with
 | nil=>rfl
 | cons p r ih=>
  obtain⟨j,d⟩:=p
  simp only[List.map_cons,Env.p9]
  split
  ·rfl
  ·exact ih
theorem Ka(h:eN G c H w){env:Env}{a:Act}(he:iP c w env.get a):iP (c.eB ks H) w (Env.get (env.map fun x=>(x.1,eB (fO ks) H 40 x.2))) a:=fun k=>by
 rw[Qe]
 exact sO h 40 (he k)
theorem P6(live:List Nat)(env:Env)(k:Nat):(forget live env).get k = .any∨(forget live env).get k=env.get k:=by
 unfold forget
 induction live with
 | nil=>exact .inl rfl
 | cons x r ih=>
  simp only[List.map_cons,Env.p9]
  split
  ·rename_i e;subst e;exact .inr rfl
  ·exact ih
theorem vj{env:Env}{a:Act}(he:iP c w env.get a)(live:List Nat):iP c w (forget live env).get a:=fun k=>by
 rcases P6 live env k with h|h<;>rw[h]
 ·exact .any _
 ·exact he k
theorem yQ{x:Nat}:∀ {l:List Nat},x∈dedup l→x∈l
 | [],h=>h
 | y::r,h=>by
  unfold dedup at h
  split at h
  ·exact aO _ (yQ h)
  ·rcases ax.1 h with rfl|h
   ·exact cL
   ·exact aO _ (yQ h)
theorem CF{x:Nat}:∀ {l:List Nat},x∈l→x∈dedup l
 | y::r,h=>by
  unfold dedup
  split
  ·rename_i hy
   rcases ax.1 h with rfl|h
   ·exact CF hy
   ·exact CF h
  ·rcases ax.1 h with rfl|h
   ·exact cL
   ·exact aO _ (CF h)
theorem DV:∀ (l:List Nat),(dedup l).Nodup
 | []=>List.nodup_nil
 | y::r=>by
  unfold dedup
  split
  ·exact DV r
  ·rename_i hn
   exact List.nodup_cons.2 ⟨fun h=>hn (yQ h),DV r⟩
theorem LZ(h:(ks.map (·.1)).Nodup):s6 ks:=by
 intro i j p q hp hq e
 have hi:(ks.map (·.1))[i]? = some p.1:=by simp[hp]
 have hj:(ks.map (·.1))[j]? = some q.1:=by simp[hq]
 have qf:=(af.1 hi).1
 have lY:=(af.1 hj).1
 rw[List.getElem?_eq_getElem qf]at hi
 rw[List.getElem?_eq_getElem lY]at hj
 simp only[aq]at hi hj
 exact(List.getElem_inj h).1 (by rw[hi,hj,e])
theorem L5{n:Nat}{K:List Nat}(hK:∀ v∈K,n≤v)(hd:K.Nodup):s6 (gu n K):=by
 apply LZ
 unfold gu
 simp only[List.map_append,cD,dz,List.map_id']
 rw[cj]
 refine⟨List.nodup_range,hd,fun a ha b hb e=>?_⟩
 subst e
 have:=hK a hb
 simp at ha
 omega
theorem L4{n:Nat}{K:List Nat}(v:Nat)(hv:v<n):((gu n K)[v]?).map (·.1)=some v:=by
 unfold gu
 rw[ag (by simpa using hv)]
 simp[hv]
theorem Kz{S:List Nat}:s6 (jw H S):=by
 apply LZ
 unfold jw
 simp only[cD,dz,List.map_id']
 exact List.nodup_range
theorem Ky{S:List Nat}(v:Nat)(hv:v<H.length):((jw H S)[v]?).map (·.1)=some v:=by
 unfold jw
 simp[hv]
theorem FJ{S:List Nat}:(mP (jw H S) H).length=H.length:=by simp[mP,jw]
end
end Go.AL
namespace Go.AL
open Go
def Cx:Operand→Bool
 | .const (.slice none 0 0)=>true
 | _=>false
def wA(P:Program)(t:TypeId):Bool:=match P.underlying t with
 | some (.slice _)=>true
 | _=>false
def nz(P:Program)(G:GT)(o:Oper):Option fR:=
 match o.op with
 | .binOp .eql t x y _=>if wA P t=true∧Cx y=true then(cX G x).map (.nilS false)else none
 | .binOp .neq t x y _=>if wA P t=true∧Cx y=true then(cX G x).map (.nilS true)else none
 | .range t x=>match P.underlying t,cX G x with
  | some .string,some a=>some (.rangeS a)
  | some (.map _ _),some a=>some (.rangeM a)
  | _,_=>none
 | .next x true=>(cX G x).map .nextS
 | .next x false=>(cX G x).map .nextM
 | .entry x=>(cX G x).map .entry
 | .call c=>match c.callee,c.argTypes.toList,c.args.toList with
  | .builtin .cap,[t],[x]=>if wA P t then(cX G x).map .capE else none
  | .builtin .clear,[t],[x]=>match P.underlying t with
   | some (.slice e)=>match mw P e,P.info? e,cX G x with
    | some z,some i,some a=>if z.length=i.size∧0<i.size then some (.clr i.size z a)else none
    | _,_,_=>none
   | _=>none
  | .builtin .append,[t,u],[x,y]=>match P.underlying t,P.underlying u with
   | some (.slice e),some (.int .i64)=>match mw P e,P.info? e,cX G x,cX G y with
    | some z,some i,some a,some b=>if z.length=i.size∧0<i.size then some (.appZ e i.size i.bytes z a b)else none
    | _,_,_,_=>none
   | _,_=>none
  | _,_,_=>none
 | _=>none
def DU(neg:Bool):D→Option D
 | .emp=>some (.b !neg)
 | .sl _ (_::_)=>some (.b neg)
 | .et _ _ _ _ (_+1)=>some (.b neg)
 | _=>none
def Cd(t sz bytes:Nat)(z:List D)(x n:D)(vn:Nat):R:=
 match x,n with
 | .emp,.val (.int .i64 m)=>if 0<m∧mm (m*bytes) 140737488355328∧mm m 9223372036854775807 then some (.et vn 0 sz 0 m.toNat,.new (.row t 0 (List.replicate m.toNat z).flatten))else none
 | _,_=>none
def xu(sz:Nat)(z:List D)(x:D)(H:U):R:=
 match x with
 | .emp=>some (.any,.no)
 | .et v g fh off len=>match rowAt H v g with
  | some (t,cs)=>if fh=sz∧(off+len)*sz≤cs.length then some (.any,.obj v (.row t g (cs.take (off*sz)++(List.replicate len z).flatten++cs.drop ((off+len)*sz))))else none
  | none=>none
 | _=>none
def Hv(x:D)(H:U):R:=
 match x with
 | .ptr v 0 0=>match H[v]? with
  | some (.nM s p)=>if p<s.size then some (.tup [.b true,.i p,.val (.int .i32 (Utf8.decode s p).1)],.obj v (.nM s (p+(Utf8.decode s p).2)))else some (.tup [.b false],.no)
  | _=>none
 | _=>none
def HI(x:D)(H:U)(vn:Nat):R:=
 match x with
 | .omap m=>match kc H m with
  | some (_,es)=>some (.ptr vn 0 0,.new (.jD (.omap m) es.length []))
  | none=>none
 | _=>none
def Fs(x:D)(H:U):Option D:=
 match x with
 | .ptr v 0 0=>match H[v]? with
  | some (.jD (.omap m) since seen)=>match kc H m,seen.getLast? with
   | some (_,es),some i=>match es[i]? with
    | some (k,d)=>if es.length=since then some (.tup [.val k,d])else none
    | none=>none
   | _,_=>none
  | _=>none
 | _=>none
def jR(env:e9)(H:U)(n:Nat):fR→R
 | .nilS neg x=>lift (DU neg (ev env x))
 | .capE x=>match ev env x with
  | .emp=>some (.i 0,.no)
  | _=>none
 | .appZ t sz bytes z x m=>Cd t sz bytes z (ev env x) (ev env m) n
 | .clr sz z x=>xu sz z (ev env x) H
 | .rangeS x=>match ev env x with
  | .val (.string s)=>some (.ptr n 0 0,.new (.nM s 0))
  | _=>none
 | .nextS x=>Hv (ev env x) H
 | .rangeM x=>HI (ev env x) H n
 | .entry x=>lift (Fs (ev env x) H)
 | _=>none
def EA:fR→Bool
 | .nilS .. | .capE .. | .appZ .. | .clr .. | .rangeS .. | .nextS .. | .rangeM .. | .nextM .. | .entry .. => true
 | _=>false
theorem ZV{op:fR}(h:EA op=true)(f:e9)(H:U)(n:Nat):eX f H n op=none:=by
 cases op<;>first|(cases h;done)|rfl
theorem ZX{op:fR}(h:EA op=true)(f:e9):im f op=none:=by
 cases op<;>first|(cases h;done)|rfl
theorem Fe{P:Program}{G:GT}{o:Oper}{io:fR}(h:nz P G o=some io):EA io=true:=by
 unfold nz at h
 repeat' split at h
 all_goals first|(cases h;done)|(simp only[ai]at h;obtain⟨_,_,rfl⟩:=h;rfl)|(cases h;rfl)
section
variable{P:Program}{G:GT}{c:Ctx}{H:U}{w:World}{env:e9}{a:Act}
abbrev KO(H:U)(al:Al)(d:D)(δ:Dl):gN:=fun d' H'=>d'=d∧H'=δ.app H al
theorem DS(h:eN G c H w){al:Al}(fr:jS H al)(o:Obj)(ob:Ob)(hg:ob.gen=0)(ha:ob.alive=true)
  (fC:(∀ u d,eu c w u d→eu (c.set al.1 0 ⟨w.heap.size,0,0,false⟩) (w.alloc o) u d)→(w.alloc o).heap[w.heap.size]? = some o→fo (c.set al.1 0 ⟨w.heap.size,0,0,false⟩) (w.alloc o) (some ⟨w.heap.size,0,0,false⟩) ob) :
  eN G (c.set al.1 0 ⟨w.heap.size,0,0,false⟩) (al.2 ob) (w.alloc o)∧eu (c.set al.1 0 ⟨w.heap.size,0,0,false⟩) (w.alloc o) (.pointer (some ⟨w.heap.size,0,none⟩)) (.ptr al.1 0 0) ∧
   Step H.length c H w (c.set al.1 0 ⟨w.heap.size,0,0,false⟩) (al.2 ob) (w.alloc o):=by
 have hL:(⟨w.heap.size,0,0,false⟩:Loc).gM=false→w.heap.size≤(⟨w.heap.size,0,0,false⟩:Loc).b∧(⟨w.heap.size,0,0,false⟩:Loc).b<(w.alloc o).heap.size:=fun _=>⟨Nat.le_refl _,by simp⟩
 have ht:=(fr ob).oY
 have hs:=EH h ht (ia.alloc w o) ⟨w.heap.size,0,0,false⟩ hL
 rw[hg]at hs
 have h1:=Ig h ht (ia.alloc w o) ⟨w.heap.size,0,0,false⟩ hL ha (by rw[hg];exact fC (fun u d hd=>hd.mr h.toHeapOK hs) (heap_alloc_new w o))
 rw[hg]at h1
 exact⟨h1,.ptr (c:=c.set al.1 0 ⟨w.heap.size,0,0,false⟩) al.1 0 0 ⟨w.heap.size,0,0,false⟩ (Ctx.oB _ _ _ _) rfl,hs⟩
theorem MP(h:eN G c H w){t:TypeId}(ht:wA P t=true){neg:Bool}{x d:D}{u:Value}(hr:eu c w u x)(ho:DU neg x=some d)(xo yo:Operand) :
  ∃ r,(do eqGuard (if neg then .neq else .eql) t xo yo u (.slice none 0 0);binOp (if neg then .neq else .eql) t u (.slice none 0 0)).run P w = .ok r w∧eu c w r d:=by
 have GN:∃ e,P.underlying t=some (.slice e):=by
  unfold wA at ht
  split at ht
  ·exact⟨_,by assumption⟩
  ·cases ht
 obtain⟨e,hu⟩:=GN
 have heq:∀ (n:Nat) (ad:Option Addr) (len cap:Nat),(Op.equalIn (n+1) t (.slice ad len cap) (.slice none 0 0)).run P w = .ok ad.isNone w:=by
  intro n ad len cap
  cases ad<;>simp[Op.equalIn,run_underlying hu]
 have fG:∀ ad len cap,Op.equal t (.slice ad len cap) (.slice none 0 0)=Op.equalIn (9999+1) t (.slice ad len cap) (.slice none 0 0):=fun _ _ _=>rfl
 have key:∀ (ad:Option Addr) (len cap:Nat),u = .slice ad len cap→(do eqGuard (if neg then .neq else .eql) t xo yo u (.slice none 0 0);binOp (if neg then .neq else .eql) t u (.slice none 0 0)).run P w = .ok (.bool (if neg then !ad.isNone else ad.isNone)) w:=by
  rintro ad len cap rfl
  have h1:=heq 9999 ad len cap
  cases neg<;>simp only[eqGuard,binOp,fG,bw,if_false,if_true,Sem.run_bind,Bool.not_true,Sem.run_pure,Result.andThen_ok,h1]
 unfold DU at ho
 split at ho
 ·cases ho
  cases hr
  exact⟨_,key none 0 0 rfl,by cases neg<;>exact .val _⟩
 ·cases ho
  cases hr with
  | sl ad len cap sz es g hlen ie iF fL lL hc GC=>
   have:ad≠none:=fun e=>by have:=lL e;simp at hlen;omega
   obtain⟨q,rfl⟩:=Option.ne_none_iff_exists'.1 this
   exact⟨_,key _ _ _ rfl,by cases neg<;>exact .val _⟩
 ·cases ho
  cases hr with
  | et _ _ _ _ _ cap L eC hv ie iF jN=>exact⟨_,key _ _ _ rfl,by cases neg<;>exact .val _⟩
 ·cases ho
theorem XS(h:eN G c H w){v g o:Nat}{t':TypeId}{cs xs:List D}(hv:H[v]? = some (.row t' g cs)){L:Loc}(eC:c.ι v g=some L)(fH:L.gM=false){vs:List Value}(hx:Cells c w vs xs)
  (jL:o+xs.length≤cs.length):∃ w',(storeCells ⟨L.b,L.base+o,none⟩ vs).run P w = .ok () w'∧eN G c (H.set v (.row t' g (cs.take o++xs++cs.drop (o+xs.length)))) w'∧Step H.length c H w c (H.set v (.row t' g (cs.take o++xs++cs.drop (o+xs.length)))) w':=by
 obtain⟨arr,h1,h2,h3,h4⟩:=sR h hv eC fH
 have ql:vs.length=xs.length:=hx.len
 have eH:=run_storeCells_at P L.b (L.base+o) t' vs 0 arr w h1 (by simp;omega) hx.one
 simp only[b9]at eH
 have hw:=zS h hv eC fH h1 (arr.toList.take (L.base+o)++vs++arr.toList.drop (L.base+o+vs.length)).toArray
  (by simp;omega) h2 (cs.take o++xs++cs.drop (o+xs.length)) (by simp;omega) (fun i d hd=>by
   have Du:=h4.nk hx o
   obtain⟨y,hy,h5,h6⟩:=Du.get hd
   refine⟨y,?_,h5,h6⟩
   rw[← hy]
   simp only[cB]
   have iL:(List.take (L.base+o) arr.toList).length=L.base+o:=by simp;omega
   have ig:(List.take o (List.take cs.length (List.drop L.base arr.toList))).length=o:=by simp;omega
   by_cases c1:i<o
   ·rw[ag (by simp;omega),ag (by rw[iL];omega),ag (by simp;omega),ag (by rw[ig];omega)]
    simp only[ay,aC]
    rw[if_pos (by omega),if_pos c1,if_pos (by omega)]
   ·by_cases c2:i<o+xs.length
    ·rw[ag (by simp;omega),aj (by rw[iL];omega),ag (by simp;omega),aj (by rw[ig];omega),iL,ig]
     congr 1
     omega
    ·have lr:i<cs.length:=by have:=(af.1 hd).1;simp at this;omega
     rw[aj (by simp;omega),aj (by simp;omega)]
     simp only[aC,ay,az,iL,ig,ql]
     rw[if_pos (by omega)]
     congr 1
     omega)
 exact⟨_,eH,hw.1,hw.2⟩
theorem XU(h:eN G c H w){al:Al}{t e ty:TypeId}{i:TypeInfo}{z:List D}(hu:P.underlying t=some (.slice e))(hi:P.info? e=some i)(hz:mw P e=some z)(pr:z.length=i.size)(iu:0<i.size)
  {x d:D} {δ:Dl} {u:Value} (hr:eu c w u x) (ho:xu i.size z x H=some (d,δ)):∃ w',(Builtin.clear_ #[t] ty #[u]).run P w = .ok (.tuple #[]) w'∧gA G c H w (KO H al d δ) (.tuple #[]) w':=by
 unfold xu at ho
 split at ho
 ·cases ho
  cases hr
  exact⟨w,by simp[Builtin.clear_,run_underlying hu],_,_,c,⟨rfl,rfl⟩,h,.any _,Step.refl _ _ _ _⟩
 ·rename_i v g fh off len
  split at ho
  ·rename_i t' cs fu
   split at ho
   ·rename_i gG
    obtain⟨rfl,jL⟩:=gG
    cases ho
    have hv:=oW fu
    dsimp only at hv
    obtain⟨zv,rj,Dz,oc⟩:=sU hz w
    have qm:zv.cells.size=i.size:=by have:=(oc c w).len;simp at this;omega
    have C7:(Dl.obj v (.row t' g (cs.take (off*i.size)++(List.replicate len z).flatten++cs.drop ((off+len)*i.size)))).app H al=H.set v (.row t' g (cs.take (off*i.size)++(List.replicate len z).flatten++cs.drop ((off+len)*i.size))):=rfl
    have n4:(List.replicate len z).flatten.length=len*i.size:=by simp[pr]
    have Ds:(.row t' g (cs.take (off*i.size)++(List.replicate 0 z).flatten++cs.drop ((off+0)*i.size)))=Ob.row t' g cs:=by simp
    have pk:H.set v (.row t' g cs)=H:=by
     have e7:=(af.1 hv).1
     have gH:=(af.1 hv).2
     rw[← gH];exact List.set_getElem_self e7
    cases hr with
    | et _ _ _ _ _ cap L eC fH ie iF jN=>
     by_cases hn:len=0
     ·subst hn
      refine⟨w,by simp[Builtin.clear_,run_underlying hu],_,_,c,⟨rfl,rfl⟩,?_,.any _,?_⟩
      ·rw[C7,Ds,pk];exact h
      ·rw[C7,Ds,pk];exact Step.refl _ _ _ _
     ·have me:Cells c w (Builtin.zeroCells zv.cells len).toList (List.replicate len z).flatten:=by
       have h1:(Builtin.zeroCells zv.cells len).toList=(List.replicate len zv.cells.toList).flatten:=by
        unfold Builtin.zeroCells
        exact D5 zv.cells len (by omega)
       rw[h1]
       exact CV _ _ oc len
      obtain⟨w',k1,k2,k3⟩:=XS (P:=P) (o:=off*i.size) h hv eC fH me (by rw[n4,← aV];exact jL)
      rw[n4,← aV]at k2 k3
      refine⟨w',?_,_,_,c,⟨rfl,rfl⟩,k2,.any _,k3⟩
      obtain⟨aga,rfl⟩:=Nat.exists_eq_succ_of_ne_zero hn
      simp[Builtin.clear_,run_underlying hu,rj,k1]
    | kd _ _ _ _ L eC ad=>
     refine⟨w,by cases ad<;>simp[Builtin.clear_,run_underlying hu],_,_,c,⟨rfl,rfl⟩,?_,.any _,?_⟩
     ·rw[C7,Ds,pk];exact h
     ·rw[C7,Ds,pk];exact Step.refl _ _ _ _
   ·cases ho
  ·cases ho
 ·cases ho
theorem XJ(h:eN G c H w){al:Al}(fr:jS H al){t u ty e:TypeId}{i:TypeInfo}{z:List D}(ht:P.underlying t=some (.slice e))(hu:P.underlying u=some (.int .i64))(hi:P.info? e=some i)(hz:mw P e=some z)(pr:z.length=i.size)(iu:0<i.size)
  {x y d:D} {δ:Dl} {ux uy:Value} (h1:eu c w ux x) (h2:eu c w uy y) (ho:Cd e i.size i.bytes z x y al.1=some (d,δ)) :
  ∃ r w',(Builtin.append_ #[t,u] ty #[ux,uy]).run P w = .ok r w'∧gA G c H w (KO H al d δ) r w':=by
 unfold Cd at ho
 split at ho
 ·rename_i m
  split at ho
  ·rename_i gG
   cases ho
   cases h1
   cases h2
   obtain⟨zv,rj,Dz,oc⟩:=sU hz w
   have yy:i.zero=some zv:=by simpa[hi]using Dz
   have qm:zv.cells.size=i.size:=by have:=(oc c w).len;simp at this;omega
   obtain⟨n,rfl⟩:∃ n:Nat,m=n:=⟨m.toNat,by omega⟩
   obtain⟨Ry,lW,vx⟩:=gG
   simp only[mm]at lW vx
   have Ld:0<n:=by omega
   have QO:n*i.bytes≤140737488355328:=by
    have h1:((n*i.bytes:Nat):Int)≤140737488355328:=by rw[Int.natCast_mul];exact lW
    omega
   have KG:n≤9223372036854775807:=by omega
   have q6:=grownCap_ge w n 0 e
   have lK:=grownCap_le_maxLen w n 0 e (by unfold maxLen;omega)
   have wn:IntKind.i64.wrap (n:Int)=n:=wrap_i64 (by unfold kE;omega)
   have gf:(Builtin.append_ #[t,u] ty #[.slice none 0 0,.int .i64 n]).run P w = .ok (.slice (some ⟨w.heap.size,0,none⟩) n (grownCap w n 0 e))
     (w.drew.alloc (.cells (Builtin.zeroCells zv.cells n++Builtin.zeroCells zv.cells (grownCap w n 0 e-n)) e)):=by
    have RF:¬ (n=0):=by omega
    have QJ:∀ w:World,(asInt (.int .i64 (n:Int))).run P w = .ok (n:Int) w:=fun w=>by simp[asInt,asIntOf]
    have hle:¬ ((n:Int)≤0):=by omega
    have kl:max (n:Int) 0=n:=by omega
    have hnt:(n:Int).toNat=n:=by omega
    have fL:¬ (i.size=0):=by omega
    have RC:¬ ((n:Int)<0):=by omega
    have Qr:¬ (281474976710656<(n:Int)*(i.bytes:Int)):=by have:(n:Int)*(i.bytes:Int)≤140737488355328:=lW;omega
    have FT:¬ (281474976710656<Builtin.nextslicecap n 0*i.bytes):=by have:=growslice_fits (old:=0) Ld QO;omega
    have Qt:¬ (9223372036854775807<(n:Int)):=by omega
    simp[Builtin.append_,run_underlying ht,run_underlying hu,sizeOf,typeInfo,zeroValue,hi,yy,QJ,wn,RC,Qr,RF,fL,FT,Qt,hle,kl,Question.forced,newRow,grownCap,run_firstCells_none]
    intro h0
    exact absurd h0 (Nat.ne_of_gt (Nat.mul_pos Ld iu))
   refine⟨_,_,gf,?_⟩
   have me:Cells c w (Builtin.zeroCells zv.cells n).toList (List.replicate n z).flatten:=by
    have h1:(Builtin.zeroCells zv.cells n).toList=(List.replicate n zv.cells.toList).flatten:=by
     unfold Builtin.zeroCells
     exact D5 zv.cells n (by omega)
    rw[h1]
    exact CV _ _ oc n
   have fL:(Builtin.zeroCells zv.cells n++Builtin.zeroCells zv.cells (grownCap w n 0 e-n)).size=grownCap w n 0 e*i.size:=by
    simp only[cg,size_zeroCells,qm,← aV]
    congr 1;omega
   obtain⟨L,e1,e2,e3,e4,e5,e6⟩:=yU h w.drew (ia.drew w) e _ (List.replicate n z).flatten (Builtin.zeroCells zv.cells n).size (Builtin.zeroCells zv.cells n++Builtin.zeroCells zv.cells (grownCap w n 0 e-n)) (fr _).oY me (by
    simp only[cI]
    exact List.take_left' (by simp)) (by simp only[cg];omega)
   have hp:=D2 (c:=c) (w:=w.drew.alloc (.cells (Builtin.zeroCells zv.cells n++Builtin.zeroCells zv.cells (grownCap w n 0 e-n)) e)) e1 e3 al.1 0 i.size n (grownCap w n 0 e) (by rw[e4,fL]) q6 lK
   rw[e2]at hp
   exact⟨_,_,_,⟨rfl,rfl⟩,e5,hp,e6⟩
  ·cases ho
 ·cases ho
theorem Yk(h:eN G c H w){al:Al}{x d:D}{δ:Dl}{u:Value}{ty:TypeId}(hr:eu c w u x)(ho:Hv x H=some (d,δ)):∃ r w',(Instr.next u true ty).run P w = .ok r w'∧gA G c H w (KO H al d δ) r w':=by
 unfold Hv at ho
 split at ho
 ·rename_i v
  split at ho
  ·rename_i s p hv
   cases hr with
   | ptr _ _ _ L eC fH=>
    have fC:=h.ob v _ hv
    simp only[Ob.gen]at fC
    rw[eC]at fC
    simp only[fo]at fC
    obtain⟨_,sw,hblk⟩:=fC
    have e7:=(aI.1 hblk).1
    rw[sw]
    by_cases hp:p<s.size
    ·rw[if_pos hp]at ho
     cases ho
     obtain⟨m1,m2⟩:=zQ h hv rfl rfl (ob':=.nM s (p+(Utf8.decode s p).2)) rfl eC fH (.stringIter s (p+(Utf8.decode s p).2)) (fun w' po _=>by
      simp only[fo];exact⟨fH,sw,po⟩)
     refine⟨.tuple #[.bool true,goInt p,.int .i32 (Utf8.decode s p).1],_,?_,_,_,c,⟨rfl,rfl⟩,m1,?_,m2⟩
     ·simp[Instr.next,getObj,setObj,Sem.run,hblk,hp]
     ·refine .tup [.bool true,goInt p,.int .i32 (Utf8.decode s p).1] _ rfl fun i v d hv hd=>?_
      match i,hv,hd with
      | 0,hv,hd=>cases hv;cases hd;exact .val _
      | 1,hv,hd=>cases hv;cases hd;exact .val _
      | 2,hv,hd=>cases hv;cases hd;exact .val _
    ·rw[if_neg hp]at ho
     cases ho
     refine⟨.tuple #[.bool false],w,?_,_,_,c,⟨rfl,rfl⟩,h,?_,Step.refl _ _ _ _⟩
     ·simp[Instr.next,getObj,Sem.run,hblk,hp]
     ·refine .tup [.bool false] _ rfl fun i v d hv hd=>?_
      match i,hv,hd with
      | 0,hv,hd=>cases hv;cases hd;exact .val _
  ·cases ho
 ·cases ho
theorem XX(h:eN G c H w){x d:D}{u:Value}(hr:eu c w u x)(ho:Fs x H=some d):∃ r,(Instr.entry u).run P w = .ok r w∧eu c w r d:=by
 unfold Fs at ho
 split at ho
 ·rename_i v
  split at ho
  ·rename_i m since seen hv
   split at ho
   ·rename_i kk es i hm tW
    split at ho
    ·rename_i k d0 KT
     split at ho
     ·rename_i hlen
      cases ho
      have tY:=sM hm
      dsimp only at tY
      cases hr with
      | ptr _ _ _ L eC fH=>
       have fC:=h.ob v _ hv
       simp only[Ob.gen]at fC
       rw[eC]at fC
       simp only[fo]at fC
       obtain⟨_,sw,bm,vQ,hblk⟩:=fC
       cases vQ with
       | omap _ Lm ui Dv=>
        have nH:=h.ob m _ tY
        simp only[Ob.gen]at nH
        rw[ui]at nH
        simp only[fo]at nH
        obtain⟨_,_,arr,clock,yg,fL,ji,xW⟩:=nH
        have hi:i<arr.size:=by rw[fL];exact(af.1 KT).1
        have QF:arr[i]? = some arr[i]:=by simp[hi]
        obtain⟨q1,q2,q3⟩:=ji i _ _ QF KT
        have QK:seen.toArray.back? = some i:=by simpa[Array.back?_eq_getElem?,List.getLast?_eq_getElem?]using tW
        have Q4:arr.find? (fun e=>e.born == i)=some arr[i]:=by
         rw[Array.find?_eq_some_iff_getElem]
         refine⟨by simp[q3],i,hi,rfl,fun j hj=>?_⟩
         have lY:j<es.length:=by rw[← fL];omega
         have:=(ji j arr[j] es[j] (by simp) (by simp[lY])).2.2
         simp[this]
         try omega
        refine⟨.tuple #[k,arr[i].val],?_,?_⟩
        ·rw[sw]
         have hc:clock=since:=by rw[xW,hlen]
         subst hc
         simp only[aX]
         simp only[Instr.entry,getObj,Sem.run_bind,Sem.run,hblk,Result.andThen_ok,QK,yg,Q4]
         simp[q1]
        ·refine .tup [k,arr[i].val] _ rfl fun j v d hv hd=>?_
         match j,hv,hd with
         | 0,hv,hd=>cases hv;cases hd;exact .val _
         | 1,hv,hd=>cases hv;cases hd;exact q2
     ·cases ho
    ·cases ho
   ·cases ho
  ·cases ho
 ·cases ho
theorem Yo(h:eN G c H w){al:Al}(fr:jS H al){t:TypeId}{k e:TypeId}(hu:P.underlying t=some (.map k e)){x d:D}{δ:Dl}{u:Value}(hr:eu c w u x)(ho:HI x H al.1=some (d,δ)) :
  ∃ r w',(Instr.range t u).run P w = .ok r w'∧gA G c H w (KO H al d δ) r w':=by
 unfold HI at ho
 split at ho
 ·rename_i m
  split at ho
  ·rename_i kk es hm
   cases ho
   have tY:=sM hm
   dsimp only at tY
   cases hr with
   | omap _ Lm ui Dv=>
    have nH:=h.ob m _ tY
    simp only[Ob.gen]at nH
    rw[ui]at nH
    simp only[fo]at nH
    obtain⟨_,_,arr,clock,yg,fL,ji,xW⟩:=nH
    obtain⟨k1,k2,k3⟩:=DS h fr (.mapIter (some Lm.b) clock #[] clock) (.jD (.omap m) es.length []) rfl rfl (fun pj hb=>by
     simp only[fo]
     refine⟨trivial,trivial,Lm.b,pj _ _ (.omap m Lm ui Dv),?_⟩
     rw[← xW];exact hb)
    exact⟨_,_,run_range_map w t k e Lm.b arr clock hu yg,_,_,_,⟨rfl,rfl⟩,k1,k2,k3⟩
  ·cases ho
 ·cases ho
theorem ZJ(h:eN G c H w)(he:iP c w env a){al:Al}(fr:jS H al){o:Oper}{io:fR}(hc:nz P G o=some io){d:D}{δ:Dl}(hk:jR env H al.1 io=some (d,δ)) :
  ∃ v w',u9 ((execOp a.eval o).run P w) v w'∧gA G c H w (KO H al d δ) v w':=by
 have plain:∀ {v:Value} {d:D},eu c w v d→gA G c H w (KO H al d .no) v w:=fun hr=>⟨_,_,c,⟨rfl,rfl⟩,h,hr,Step.refl _ _ _ _⟩
 unfold nz at hc
 split at hc
 ·rename_i t x y ty ho
  split at hc
  ·rename_i gG
   simp only[ai]at hc
   obtain⟨X,hX,rfl⟩:=hc
   have hy:y = .const (.slice none 0 0):=by
    have:=gG.2
    unfold Cx at this
    split at this
    ·rfl
    ·cases this
   subst hy
   obtain⟨lZ,rfl⟩:=jC hk
   obtain⟨r,h1,h2⟩:=MP h gG.1 (fY h he hX) lZ x (.const (.slice none 0 0))
   exact⟨r,w,by simp only[execOp,ho];exact gT h1,plain h2⟩
  ·cases hc
 ·rename_i t x y ty ho
  split at hc
  ·rename_i gG
   simp only[ai]at hc
   obtain⟨X,hX,rfl⟩:=hc
   have hy:y = .const (.slice none 0 0):=by
    have:=gG.2
    unfold Cx at this
    split at this
    ·rfl
    ·cases this
   subst hy
   obtain⟨lZ,rfl⟩:=jC hk
   obtain⟨r,h1,h2⟩:=MP h gG.1 (fY h he hX) lZ x (.const (.slice none 0 0))
   exact⟨r,w,by simp only[execOp,ho];exact gT h1,plain h2⟩
  ·cases hc
 ·rename_i t x ho
  split at hc
  ·rename_i X hu hX
   cases hc
   simp only[jR]at hk
   split at hk
   ·rename_i s hs
    cases hk
    have hr:=fY h he hX
    rw[hs]at hr
    generalize GX:a.eval x=u at hr
    cases hr
    obtain⟨k1,k2,k3⟩:=DS h fr (.stringIter s 0) (.nM s 0) rfl rfl (fun _ hb=>by simp only[fo];exact⟨trivial,trivial,hb⟩)
    refine⟨_,_,by simp only[execOp,ho,GX];exact gT (v:=.pointer (some ⟨w.heap.size,0,none⟩)) (w':=w.alloc (.stringIter s 0)) (by simp[Instr.range,run_underlying hu]),_,_,_,⟨rfl,rfl⟩,k1,k2,k3⟩
   ·cases hk
  ·rename_i k e X hu hX
   cases hc
   obtain⟨r,w',h1,h2⟩:=Yo (P:=P) h fr hu (fY h he hX) hk
   exact⟨r,w',by simp only[execOp,ho];exact gT h1,h2⟩
  ·cases hc
 ·rename_i x ho
  simp only[ai]at hc
  obtain⟨X,hX,rfl⟩:=hc
  obtain⟨r,w',h1,h2⟩:=Yk (P:=P) (ty:=o.type) h (fY h he hX) hk
  exact⟨r,w',by simp only[execOp,ho];exact gT h1,h2⟩
 ·simp only[ai]at hc
  obtain⟨X,hX,rfl⟩:=hc
  cases hk
 ·rename_i x ho
  simp only[ai]at hc
  obtain⟨X,hX,rfl⟩:=hc
  obtain⟨lZ,rfl⟩:=jC hk
  obtain⟨r,h1,h2⟩:=XX (P:=P) h (fY h he hX) lZ
  exact⟨r,w,by simp only[execOp,ho];exact gT h1,plain h2⟩
 ·rename_i cl ho
  split at hc
  ·rename_i t x gQ kj nW
   split at hc
   ·rename_i eH
    simp only[ai]at hc
    obtain⟨X,hX,rfl⟩:=hc
    have nX:cl.argTypes = #[t]:=by rw[← bx (xs:=cl.argTypes),kj]
    have xS:cl.args = #[x]:=by rw[← bx (xs:=cl.args),nW]
    have hr:=fY h he hX
    simp only[jR]at hk
    split at hk
    ·rename_i mf
     cases hk
     rw[mf]at hr
     generalize GX:a.eval x=u at hr
     cases hr
     have GN:∃ e,P.underlying t=some (.slice e):=by
      unfold wA at eH
      split at eH
      ·exact⟨_,by assumption⟩
      ·cases eH
     obtain⟨e,hu⟩:=GN
     refine⟨.int .i64 0,w,by rw[qy ho gQ,nX,xS];exact gT (by simp[GX,Builtin.cap_,run_underlying hu,goInt]),plain (.val _)⟩
    ·cases hk
   ·cases hc
  ·rename_i t x gQ kj nW
   have nX:cl.argTypes = #[t]:=by rw[← bx (xs:=cl.argTypes),kj]
   have xS:cl.args = #[x]:=by rw[← bx (xs:=cl.args),nW]
   split at hc
   ·rename_i e hu
    split at hc
    ·rename_i z i X hz hi hX
     split at hc
     ·rename_i gG
      cases hc
      obtain⟨w',h1,h2⟩:=XU (P:=P) (al:=al) (ty:=o.type) h hu hi hz gG.1 gG.2 (fY h he hX) hk
      exact⟨_,w',by rw[qy ho gQ,nX,xS];exact gT (by simpa using h1),h2⟩
     ·cases hc
    ·cases hc
   ·cases hc
  ·rename_i t u x y gQ kj nW
   have nX:cl.argTypes = #[t,u]:=by rw[← bx (xs:=cl.argTypes),kj]
   have xS:cl.args = #[x,y]:=by rw[← bx (xs:=cl.args),nW]
   split at hc
   ·rename_i e hu R7
    split at hc
    ·rename_i z i X Y hz hi hX hY
     split at hc
     ·rename_i gG
      cases hc
      obtain⟨r,w',h1,h2⟩:=XJ (P:=P) (ty:=o.type) h fr hu R7 hi hz gG.1 gG.2 (fY h he hX) (fY h he hY) hk
      exact⟨r,w',by rw[qy ho gQ,nX,xS];exact gT (by simpa using h1),h2⟩
     ·cases hc
    ·cases hc
   ·cases hc
  ·cases hc
 ·cases hc
end
end Go.AL
namespace Go.AL
open Go
abbrev FW(ro:Option Nat):Fence:={ Fence.wide with round:=ro }
theorem xn{ro:Option Nat}{n:Nat}{P:Program}{f:FuncId}{args:Array Value}{w:World}{R:Ending→World→Prop}:CallsIn (FW ro) n P f args w R↔Calls P f args w R:=
 callsIn_wide (n:=n)
inductive kf(c:Ctx):List Nat→List Deferred→Prop
 | nil:kf c [] []
 | cons {v:Nat} {vs:List Nat} {ds:List Deferred} (L:Loc) (h1:c.ι v 0=some L) (h2:L.gM=false) (h:kf c vs ds):kf c (v::vs) ({ target:=.collected L.b,args:=#[] }::ds)
theorem kf.mono{c c':Ctx}(eC:∀ v L,c.ι v 0=some L→c'.ι v 0=some L){vs:List Nat}{ds:List Deferred}(h:kf c vs ds):kf c' vs ds:=by
 induction h with
 | nil=>exact .nil
 | cons L h1 h2 _ ih=>exact .cons L (eC _ _ h1) h2 ih
structure iQ(G:GT)(N:Nat)(c:Ctx)(w:World)(s:St)(a:Act):Prop where
 eA:eN G c s.H w
 env:iP c w s.env.get a
 size:N≤a.tmps.size
 marks:kf c s.marks a.defers
def nR(N:Nat):Option Tmp→Bool
 | some d=>decide (d<N)
 | none=>true
def Fc(P:Program)(G:GT)(o:Oper):Option fR:=match kg P G o with
 | some op=>some op
 | none=>nz P G o
def pY(P:Program)(G:GT)(N:Nat)(ops:Array Oper)(o:Oper):Option eV:=
 match Fc P G o with
 | none=>none
 | some op=>if nR N o.dst=true then(match o.guard with
   | none=>some ⟨o.dst,op,none⟩
   | some (j,want)=>match (ops[j]?).bind (·.dst)with
    | some t=>some ⟨o.dst,op,some (t,want)⟩
    | none=>none)else none
def lG(P:Program)(G:GT)(N:Nat)(ops:Array Oper):List Oper→Option (List eV)
 | []=>some []
 | o::r=>match pY P G N ops o,lG P G N ops r with
  | some e,some l=>some (e::l)
  | _,_=>none
section
variable{P:Program}{G:GT}{c:Ctx}{w:World}{env:e9}{a:Act}{N:Nat}
theorem YP{env:Env}{a:Act}{c:Ctx}{w:World}(he:iP c w env.get a)(hN:N≤a.tmps.size){dst:Option Tmp}(hd:nR N dst=true){v:Value}{d:D}(hr:eu c w v d) :
  iP c w (put env dst d).get (a.put dst v):=by
 cases dst with
 | none=>exact he
 | some t=>
  have ht:t<a.tmps.size:=aH (by simpa[nR]using hd) hN
  intro k
  simp only[put,Env.p9,Act.put]
  split
  ·rename_i e
   subst e
   have:(a.tmps.setIfInBounds t v).getD t undef=v:=by simp[Array.getD,ht]
   rw[this];exact hr
  ·rename_i e
   have:(a.tmps.setIfInBounds t v).getD k undef=a.tmps.getD k undef:=by
    simp only[bE,bt e]
   rw[this];exact he k
theorem M4{a:Act}{dst:Option Tmp}{v:Value}:(a.put dst v).tmps.size=a.tmps.size:=by
 cases dst<;>simp[Act.put]
theorem put_defers{a:Act}{dst:Option Tmp}{v:Value}:(a.put dst v).defers=a.defers:=by
 cases dst<;>rfl
theorem iP.carry{c c':Ctx}{w w':World}(h:∀ v d,eu c w v d→eu c' w' v d)(he:iP c w env a):iP c' w' env a:=fun k=>h _ _ (he k)
theorem iQ.next{c':Ctx}{w':World}{H':U}{s:St}(hs:iQ G N c w s a)(eA:eN G c' H' w')(eH:Step s.H.length c s.H w c' H' w'){dst:Option Tmp}(hd:nR N dst=true)
  {v:Value} {d:D} (hr:eu c' w' v d):iQ G N c' w' { s with env:=put s.env dst d,H:=H' } (a.put dst v) where
 eA:=eA
 env:=YP (hs.env.carry fun _ _ h=>h.mr hs.eA.toHeapOK eH) hs.size hd hr
 size:=by rw[M4];exact hs.size
 marks:=by
  rw[put_defers]
  refine hs.marks.mono fun v L h=>eH.old v 0 L ?_ h
  rcases aW v s.H.length with h'|h'
  ·exact h'
  ·rw[hs.eA.out v 0 h']at h;cases h
theorem oZ(he:iP c w env a){ops:Array Oper}{o:Oper}{g:Option (Nat×Bool)}(hg:match o.guard with
   | none=>g=none
   | some (j,want)=>∃ t,(ops[j]?).bind (·.dst)=some t∧g=some (t,want)) {b:Bool} (h:guardOf env g=some b):Region.wanted o (yielded ops a.tmps)=b:=by
 unfold Region.wanted
 split at hg
 ·rename_i vF
  subst hg
  simp only[guardOf,aq]at h
  simp[vF,h]
 ·rename_i j want vF
  obtain⟨t,ht,rfl⟩:=hg
  simp only[guardOf]at h
  split at h
  ·rename_i x hx
   cases h
   have hr:=he t
   rw[hx]at hr
   generalize hv:a.tmps.getD t undef=v at hr
   cases hr
   have gH:a.tmps[t]? = some (.bool x):=by
    rw[bE]at hv
    cases hq:a.tmps[t]? with
    | none=>rw[hq]at hv;simp[undef]at hv
    | some q=>rw[hq]at hv;simpa using hv
   simp only[vF,yielded,ht,Option.bind_some,gH]
   cases x<;>cases want<;>rfl
  ·rename_i vs hx
   cases h
   have hr:=he t
   rw[hx]at hr
   generalize hv:a.tmps.getD t undef=v at hr
   cases hr
   have gH:a.tmps[t]? = some (.tuple vs)∨a.tmps[t]? = none:=by
    rw[bE]at hv
    cases hq:a.tmps[t]? with
    | none=>exact .inr rfl
    | some q=>rw[hq]at hv;exact .inl (by simpa using hv)
   rcases gH with gH|gH<;>simp only[vF,yielded,ht,Option.bind_some,gH]<;>cases want<;>rfl
  ·cases h
theorem JV{o:Oper}{op:fR}(h:Fc P G o=some op):kg P G o=some op∨nz P G o=some op:=by
 unfold Fc at h
 split at h
 ·cases h;exact .inl (by assumption)
 ·exact .inr h
theorem JS{o:Oper}{io:fR}(hc:kg P G o=some io∨nz P G o=some io){f:e9}{H:U}{n:Nat}{r:D×Dl}(h:eX f H n io=some r):kg P G o=some io:=by
 refine hc.resolve_right fun h2=>?_
 rw[ZV (Fe h2)]at h
 cases h
theorem xw{o:Oper}{io:fR}(hc:kg P G o=some io∨nz P G o=some io){f:e9}{r:FuncId×List D}(h:im f io=some r):kg P G o=some io:=by
 refine hc.resolve_right fun h2=>?_
 rw[ZX (Fe h2)]at h
 cases h
theorem r8{ops:Array Oper}{o:Oper}{e:eV}(h:pY P G N ops o=some e) :
  (kg P G o=some e.op∨nz P G o=some e.op)∧e.dst=o.dst∧(nR N o.dst=true)∧(match o.guard with
   | none=>e.guard=none
   | some (j,want)=>∃ t,(ops[j]?).bind (·.dst)=some t∧e.guard=some (t,want)):=by
 unfold pY at h
 split at h
 ·cases h
 ·rename_i op fG
  split at h
  ·rename_i hd
   split at h
   ·rename_i hg
    cases h
    exact⟨JV fG,rfl,hd,by simp[hg]⟩
   ·rename_i j want hg
    split at h
    ·rename_i t ht
     cases h
     exact⟨JV fG,rfl,hd,t,ht,rfl⟩
    ·cases h
  ·cases h
theorem uA{o:Oper}{io:fR}(h:kg P G o=some io):∀ c,o.op≠.defer c:=by
 intro c hc
 simp[kg,hc]at h
theorem MB{o:Oper}{io:fR}(h:nz P G o=some io):∀ c,o.op≠.defer c:=by
 intro c hc
 simp[nz,hc]at h
theorem aag{ro:Option Nat}{n:Nat}{o:Oper}{s:St}{io:fR}{d:D}{δ:Dl}{next:Act→World→Prop}{Q:Exit→Act→World→Prop}(hs:iQ G N c w s a)(hc:nz P G o=some io)
  (hd:nR N o.dst=true) {al:Al} (fr:jS s.H al) (h:jR s.env.get s.H al.1 io=some (d,δ))
  (k:∀ c' w' a',iQ G N c' w' { s with env:=put s.env o.dst d,H:=δ.app s.H al } a'→Step s.H.length c s.H w c' (δ.app s.H al) w'→next a' w'):o.wpIn (FW ro) n P a w next Q:=by
 obtain⟨v,w',hy,d',H',c',⟨rfl,rfl⟩,eA,hr,eH⟩:=ZJ (P:=P) hs.eA hs.env fr hc h
 refine⟨fun _ _=>trivial,?_⟩
 rw[Oper.semAt_plain (FW ro) a.eval o (MB hc)]
 have hn:=k c' w' (a.put o.dst v) (hs.next eA eH hd hr) eH
 rcases hy with hy|⟨hy,rfl⟩
 ·rw[hy];exact hn
 ·rw[hy];exact hn
theorem aad{ro:Option Nat}{n:Nat}{o:Oper}{s:St}{x:X}{next:Act→World→Prop}{Q:Exit→Act→World→Prop}(hs:iQ G N c w s a)(hc:nz P G o=some (.nextM x))
  (hd:nR N o.dst=true) {v m since:Nat} {seen:List Nat} {kk:KK} {es:List (Value×D)} (hx:ev s.env.get x = .ptr v 0 0) (hv:s.H[v]? = some (.jD (.omap m) since seen)) (hm:s.H[m]? = some (.map kk es)) (nf:es.length=since)
  (k0:(∀ i,i<es.length→i∈seen)→∀ c' w' a',iQ G N c' w' { s with env:=put s.env o.dst (.tup [.b false]) } a'→Step s.H.length c s.H w c' s.H w'→next a' w')
  (k1:∀ i k d,es[i]? = some (k,d)→i ∉ seen→∀ c' w' a',iQ G N c' w' { s with env:=put s.env o.dst (.tup [.b true,.val k,d]),H:=s.H.set v (.jD (.omap m) since (seen ++ [i])) } a' →
   Step s.H.length c s.H w c' (s.H.set v (.jD (.omap m) since (seen ++ [i]))) w'→next a' w'):o.wpIn (FW ro) n P a w next Q:=by
 have fG:∃ y,o.op = .next y false∧cX G y=some x:=by
  unfold nz at hc
  repeat' split at hc
  all_goals first|(cases hc;done)|(simp only[ai]at hc;obtain⟨_,_,hh⟩:=hc;cases hh;done)|skip
  simp only[ai]at hc
  obtain⟨X,hX,hh⟩:=hc
  cases hh
  exact⟨_,by assumption,hX⟩
 obtain⟨y,ho,hX⟩:=fG
 have hr:=fY hs.eA hs.env hX
 rw[hx]at hr
 generalize hu:a.eval y=u at hr
 cases hr with
 | ptr _ _ _ L eC fH=>
  have fC:=hs.eA.ob v _ hv
  simp only[Ob.gen]at fC
  rw[eC]at fC
  simp only[fo]at fC
  obtain⟨_,sw,bm,vQ,hblk⟩:=fC
  cases vQ with
  | omap _ Lm ui Dv=>
   have nH:=hs.eA.ob m _ hm
   simp only[Ob.gen]at nH
   rw[ui]at nH
   simp only[fo]at nH
   obtain⟨_,_,arr,clock,yg,fL,ji,xW⟩:=nH
   have mE:clock=since:=by rw[xW,nf]
   subst mE
   refine⟨fun _ _=>trivial,?_⟩
   rw[Oper.semAt_plain (FW ro) a.eval o (MB hc)]
   have F7:∀ e∈arr.toList,e.born<clock:=by
    intro e he
    obtain⟨i,hi⟩:=aD.1 he
    have qf:i<es.length:=by rw[← fL];have:=(af.1 hi).1;simpa using this
    have:=(ji i e es[i] (by simpa using hi) (by simp[qf])).2.2
    omega
   have LG:=next_test_false seen.toArray arr clock clock F7 (Nat.le_refl _)
   have hold:(leftOf arr seen.toArray).filter (fun e=>decide (e.born<clock))=leftOf arr seen.toArray:=by
    apply Array.filter_eq_self.2
    intro e he
    simp only[decide_eq_true_eq]
    exact F7 e (by simpa using (de.1 he).1)
   have jM:(leftOf arr seen.toArray).filter (fun e=>decide (e.born≥clock)) = #[]:=by
    apply Array.filter_eq_empty_iff.2
    intro e he
    have:=F7 e (by simpa using (de.1 he).1)
    simp;omega
   have KZ:∀ w1:World,w1.heap=w.heap→(getObj L.b).run P w1 = .ok (.mapIter (some Lm.b) clock seen.toArray clock) w1:=fun w1 h1=>by simp[getObj,Sem.run,h1,hblk]
   have K1:∀ w1:World,w1.heap=w.heap→(getObj Lm.b).run P w1 = .ok (.map arr clock) w1:=fun w1 h1=>by simp[getObj,Sem.run,h1,yg]
   have mH:∀ e,e∈(leftOf arr seen.toArray).toList→∃ i k d,es[i]? = some (k,d)∧i ∉ seen∧e.key=k∧eu c w e.val d∧e.born=i:=by
    intro e he
    have tN:e∈arr∧(!seen.toArray.contains e.born)=true:=by
     have:=de.1 (show e∈leftOf arr seen.toArray by simpa using he)
     exact this
    obtain⟨i,hi⟩:=aD.1 (show e∈arr.toList by simpa using tN.1)
    have qf:i<es.length:=by rw[← fL];have:=(af.1 hi).1;simpa using this
    obtain⟨q1,q2,q3⟩:=ji i e es[i] (by simpa using hi) (by simp[qf])
    refine⟨i,es[i].1,es[i].2,by simp[qf],?_,q1,q2,q3⟩
    have:=tN.2
    rw[q3]at this
    simpa using this
   by_cases jA:(leftOf arr seen.toArray) = #[]
   ·have gf:(execOp a.eval o).run P w = .ok (.value (.tuple #[.bool false])) w:=by
     have h2:(Instr.next (.pointer (some ⟨L.b,0,none⟩)) false o.type).run P w = .ok (.tuple #[.bool false]) w:=by
      have x9:(arr.filter fun e => !(seen.toArray).contains e.born) = #[]:=jA
      simp only[Instr.next,Sem.run_bind,KZ w rfl,Result.andThen_ok,K1 w rfl,LG,bw,if_false,Sem.run_pure,x9]
      simp[choose,Sem.run,Question.forced]
     simp only[execOp,ho,hu]
     rw[sw]
     simp[h2]
    rw[gf]
    refine k0 (fun i hi=>?_) c w _ (hs.next hs.eA (Step.refl _ _ _ _) hd (.tup [.bool false] _ rfl fun j v d hv hd=>?_)) (Step.refl _ _ _ _)
    ·by_cases fg:i∈seen
     ·exact fg
     ·exfalso
      have tR:i<arr.size:=by omega
      have QM:=(ji i arr[i] es[i] (by simp[tR]) (by simp[hi])).2.2
      have:arr[i]∈leftOf arr seen.toArray:=by
       refine de.2 ⟨Array.getElem_mem _,?_⟩
       rw[QM];simpa using fg
      rw[jA]at this
      simp at this
    ·match j,hv,hd with
     | 0,hv,hd=>cases hv;cases hd;exact .val _
   ·have fF:(leftOf arr seen.toArray).isEmpty=false:=by
     cases hq:(leftOf arr seen.toArray).isEmpty with
     | false=>rfl
     | true=>exact absurd (Array.isEmpty_iff.1 hq) jA
    have iu:0<(leftOf arr seen.toArray).size:=by
     rcases dv (leftOf arr seen.toArray).size with h|h
     ·exact absurd (Array.eq_empty_of_size_eq_zero h) jA
     ·exact h
    have F':∃ (i:Nat) (w1:World),i<(leftOf arr seen.toArray).size∧ia w w1∧w1.heap=w.heap∧(choose (.mapNext (leftOf arr seen.toArray).size)).run P w = .ok i w1:=by
     by_cases hf:(Question.mapNext (leftOf arr seen.toArray).size).forced=true
     ·exact⟨0,w,iu,ia.refl w,rfl,by simp[choose,Sem.run,hf]⟩
     ·exact⟨w.tape w.drawn (.mapNext (leftOf arr seen.toArray).size) % (leftOf arr seen.toArray).size,{ w with drawn:=w.drawn+1 },Nat.mod_lt _ iu,ia.drew w,rfl,by simp[choose,Sem.run,hf,Question.cut]⟩
    obtain⟨i,w1,hi,K2,Q',QS⟩:=F'
    obtain⟨i',k,d,h1,h2,h3,h4,h5⟩:=mH (leftOf arr seen.toArray)[i] (by simp)
    have ub:=hs.eA.lV K2
    obtain⟨m1,m2⟩:=zQ ub hv rfl rfl (ob':=.jD (.omap m) clock (seen ++ [i'])) rfl eC fH (.mapIter (some Lm.b) clock (seen ++ [i']).toArray clock) (fun w' po pj=>by
     simp only[fo]
     exact⟨fH,sw,Lm.b,.omap m Lm ui Dv,po⟩)
    have eH:Step s.H.length c s.H w c (s.H.set v (.jD (.omap m) clock (seen ++ [i']))) { w1 with heap:=w1.heap.setIfInBounds L.b (.mapIter (some Lm.b) clock (seen ++ [i']).toArray clock) }:=(wD _ K2).trans m2 (Nat.le_refl _)
    have gf:(execOp a.eval o).run P w = .ok (.value (.tuple #[.bool true,k,(leftOf arr seen.toArray)[i].val])) { w1 with heap:=w1.heap.setIfInBounds L.b (.mapIter (some Lm.b) clock (seen ++ [i']).toArray clock) }:=by
     have pk:(setObj L.b (.mapIter (some Lm.b) clock (seen ++ [i']).toArray clock)).run P w1 = .ok () { w1 with heap:=w1.heap.setIfInBounds L.b (.mapIter (some Lm.b) clock (seen ++ [i']).toArray clock) }:=by
      simp[setObj,Sem.run,Q',hblk]
     have h2:(Instr.next (.pointer (some ⟨L.b,0,none⟩)) false o.type).run P w = .ok (.tuple #[.bool true,k,(leftOf arr seen.toArray)[i].val]) { w1 with heap:=w1.heap.setIfInBounds L.b (.mapIter (some Lm.b) clock (seen ++ [i']).toArray clock) }:=by
      have x9:(arr.filter fun e => !(seen.toArray).contains e.born)=leftOf arr seen.toArray:=rfl
      have gC:((if (leftOf arr seen.toArray).isEmpty then #[none]else #[])++(leftOf arr seen.toArray ++ #[]).map some)=(leftOf arr seen.toArray).map some:=by simp[fF]
      simp only[Instr.next,Sem.run_bind,KZ w rfl,Result.andThen_ok,K1 w rfl,LG,bw,if_false,Sem.run_pure,x9,hold,jM,gC,Array.size_map,QS]
      have Q8:((leftOf arr seen.toArray).map some)[i]? = some (some (leftOf arr seen.toArray)[i]):=by simp[hi]
      simp only[Q8,Sem.run_bind]
      rw[h5,show seen.toArray.push i'=(seen ++ [i']).toArray by simp,pk]
      simp[h3]
     simp only[execOp,ho,hu]
     rw[sw]
     simp[h2]
    rw[gf]
    refine k1 i' k d h1 h2 c _ _ (hs.next m1 eH hd (.tup [.bool true,k,(leftOf arr seen.toArray)[i].val] _ rfl fun j v d hv hd=>?_)) eH
    match j,hv,hd with
    | 0,hv,hd=>cases hv;cases hd;exact .val _
    | 1,hv,hd=>cases hv;cases hd;exact .val _
    | 2,hv,hd=>cases hv;cases hd;exact h4.mr hs.eA.toHeapOK eH
theorem aae{ro:Option Nat}{n:Nat}{o:Oper}{s:St}{io:fR}{d:D}{δ:Dl}{next:Act→World→Prop}{Q:Exit→Act→World→Prop}(hs:iQ G N c w s a)(hc:kg P G o=some io)
  (hd:nR N o.dst=true) {al:Al} (fr:jS s.H al) (h:eX s.env.get s.H al.1 io=some (d,δ))
  (k:∀ c' w' a',iQ G N c' w' { s with env:=put s.env o.dst d,H:=δ.app s.H al } a'→Step s.H.length c s.H w c' (δ.app s.H al) w'→next a' w'):o.wpIn (FW ro) n P a w next Q:=by
 obtain⟨v,w',hy,d',H',c',⟨rfl,rfl⟩,eA,hr,eH⟩:=M0 (P:=P) (K:=fun d' H'=>d'=d∧H'=δ.app s.H al) hs.eA hs.env fr hc (Jt h ⟨rfl,rfl⟩)
 refine⟨fun _ _=>trivial,?_⟩
 rw[Oper.semAt_plain (FW ro) a.eval o (uA hc)]
 have hn:=k c' w' (a.put o.dst v) (hs.next eA eH hd hr) eH
 rcases hy with hy|⟨hy,rfl⟩
 ·rw[hy];exact hn
 ·rw[hy];exact hn
