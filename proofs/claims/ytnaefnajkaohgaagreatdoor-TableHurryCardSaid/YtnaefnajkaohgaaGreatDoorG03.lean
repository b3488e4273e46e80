/- Part 3 of TableHurry. -/
import Derived.Test.YtnaefnajkaohgaaGreatDoorG01
import Derived.Test.YtnaefnajkaohgaaGreatDoorG02
import Derived.Laws.IdiomRangeMap
import Derived.RangeFuncLeaves
import Derived.OwnWalkIn
set_option linter.all false
namespace Go.AL
open Go
def DL:Int→Bool
 | .ofNat m=>Nat.ble m 9223372036854775807
 | .negSucc m=>Nat.ble m 9223372036854775807
theorem SZ(n:Int):DL n=true↔kL n:=by
 unfold kL
 cases n with
 | ofNat m=>
  have e:DL (.ofNat m)=Nat.ble m 9223372036854775807:=rfl
  rw[e,Nat.ble_eq]
  have:(Int.ofNat m)=(m:Int):=rfl
  omega
 | negSucc m=>
  have e:DL (.negSucc m)=Nat.ble m 9223372036854775807:=rfl
  rw[e,Nat.ble_eq]
  have:Int.negSucc m = -((m:Int)+1):=Int.negSucc_eq m
  omega
instance(n:Int):Decidable (kL n):=decidable_of_iff (DL n=true) (SZ n)
def DS(k:Nat):Int→Bool
 | .ofNat m=>Nat.ble m k
 | .negSucc _=>true
def mu(n:Int)(k:Nat):Prop:=n≤(k:Int)
theorem TF(n:Int)(k:Nat):DS k n=true↔mu n k:=by
 unfold mu
 cases n with
 | ofNat m=>
  have e:DS k (.ofNat m)=Nat.ble m k:=rfl
  rw[e,Nat.ble_eq]
  have:(Int.ofNat m)=(m:Int):=rfl
  omega
 | negSucc m=>
  have e:DS k (.negSucc m)=true:=rfl
  rw[e]
  have:Int.negSucc m = -((m:Int)+1):=Int.negSucc_eq m
  simp only[true_iff]
  omega
instance(n:Int)(k:Nat):Decidable (mu n k):=decidable_of_iff (DS k n=true) (TF n k)
inductive Dl where
 | no
 | cells (v o:Nat) (xs:List D)
 | obj (v:Nat) (ob:Ob)
 | new (ob:Ob)
 deriving Inhabited
def Dl.app(H:et)(al:Al):Dl→et
 | .no=>H
 | .cells v o xs=>match H[v]? with
  | some (.row t g cs)=>H.set v (.row t g (cs.take o++xs++cs.drop (o+xs.length)))
  | _=>H
 | .obj v ob=>H.set v ob
 | .new ob=>al.2 ob
abbrev R:=Option (D×Dl)
def ret(d:D):R:=some (d,.no)
def ij(op:BinOp)(k:IntKind)(a b:Int):Option D:=
 match op with
 | .add=>if k = .i64 then(if kL (a+b)then some (.val (.int .i64 (a+b)))else none)else some (.val (.int k (k.wrap (a+b))))
 | .sub=>if k = .i64 then(if kL (a-b)then some (.val (.int .i64 (a-b)))else none)else some (.val (.int k (k.wrap (a-b))))
 | .mul=>if k = .i64 then(if kL (a*b)then some (.val (.int .i64 (a*b)))else none)else some (.val (.int k (k.wrap (a*b))))
 | .quo=>if b=0 then none else some (.val (.int k (k.wrap (a.tdiv b))))
 | .rem=>if b=0 then none else some (.val (.int k (a.tmod b)))
 | .and | .or | .xor | .andNot=>some (.val (.int k (bits op k a b)))
 | .eql=>some (.val (.bool (a == b)))
 | .neq=>some (.val (.bool (a != b)))
 | .lss=>some (.val (.bool (decide (a<b))))
 | .leq=>some (.val (.bool (decide (a≤b))))
 | .gtr=>some (.val (.bool (decide (a>b))))
 | .geq=>some (.val (.bool (decide (a≥b))))
 | _=>none
def Iq(op:BinOp)(k:IntKind)(a b:Int):Option D:=
 match op with
 | .shl=>if 0≤b then some (.val (.int k (k.wrap (a*2 ^ (min b.toNat k.bits)))))else none
 | .shr=>if 0≤b then some (.val (.int k (a.fdiv (2 ^ (min b.toNat k.bits)))))else none
 | _=>none
def wQ(op:BinOp)(a b:ByteArray):Option D:=
 match op with
 | .eql=>some (.val (.bool (a.data.toList == b.data.toList)))
 | .neq=>some (.val (.bool (!(a.data.toList == b.data.toList))))
 | .add=>if mu ((a.size+b.size:Nat):Int) 9223372036854775807 then some (.val (.string (a++b)))else none
 | _=>none
def jc(op:BinOp)(x y:D):Option D:=
 match x,y with
 | .val (.int k a),.val (.int k' b)=>if mr op then Iq op k a b else if k=k' then ij op k a b else none
 | .val (.string a),.val (.string b)=>wQ op a b
 | _,_=>none
def zY(op:UnOp)(x:D):Option D:=
 match op,x with
 | .not,.val (.bool b)=>some (.val (.bool (!b)))
 | .neg,.val (.int .i64 n)=>if kL (-n)then some (.val (.int .i64 (-n)))else none
 | .xor,.val (.int k n)=>some (.val (.int k (bits .xor k (if k.signed then -1 else k.max) n)))
 | _,_=>none
def tK(gN:Bool)(ls:List lH)(neg:Bool)(x y:D):Option D:=
 match gN,x,y with
 | true,.agg a,.agg b=>match lu ls a b with
  | some r=>some (.val (.bool (if neg then !r else r)))
  | none=>none
 | false,x,y=>match lu ls [x] [y]with
  | some r=>some (.val (.bool (if neg then !r else r)))
  | none=>none
 | _,_,_=>none
def uP(c a b:D):Option D:=
 match c with
 | .val (.bool x)=>some (if x then a else b)
 | _=>none
def qz(x:D)(H:et):Option D:=
 match x with
 | .ptr v g o=>match rowAt H v g with
  | some (_,cs)=>cs[o]?
  | none=>none
 | .eG cs=>cs[0]?
 | _=>none
def qA(n:Nat)(x:D)(H:et):Option D:=
 match x with
 | .ptr v g o=>match rowAt H v g with
  | some (_,cs)=>if o+n≤cs.length then some (.agg ((cs.drop o).take n))else none
  | none=>none
 | .eG cs=>if n≤cs.length then some (.agg (cs.take n))else none
 | _=>none
def u3(a x:D)(H:et):R:=
 match a with
 | .ptr v g o=>match rowAt H v g with
  | some (_,cs)=>if o<cs.length∧one x=true then some (.any,.cells v o [x])else none
  | none=>none
 | _=>none
def u4(n:Nat)(a x:D)(H:et):R:=
 match a,cellsOf x with
 | .ptr v g o,some xs=>match rowAt H v g with
  | some (_,cs)=>if xs.length=n∧o+n≤cs.length then some (.any,.cells v o xs)else none
  | none=>none
 | _,_=>none
def mZ(t:TypeId)(x:D)(n:Nat):R:=
 match cellsOf x with
 | some cs=>some (.ptr n 0 0,.new (.row t 0 cs))
 | none=>none
def vt(env:fg)(z:List D)(ps:List (Nat×Nat×X)):Option D:=
 match partsOf env ps with
 | some l=>match lay l z with
  | some cs=>some (.agg cs)
  | none=>none
 | none=>none
def sf(env:fg)(t sz:Nat)(z:List D)(m:Nat)(ps:List (Nat×X))(n:Nat):R:=
 match partsOf env (ps.map fun p=>(p.1*sz,sz,p.2))with
 | some l=>match lay l (List.replicate m z).flatten with
  | some cs=>some (.eu n 0 sz 0 m,.new (.row t 0 cs))
  | none=>none
 | none=>none
def xW(off:Nat)(x:D):Option D:=
 match x with
 | .ptr v g o=>some (.ptr v g (o+off))
 | .eG cs=>some (.eG (cs.drop off))
 | _=>none
def tP(off n:Nat)(gN:Bool)(x:D):Option D:=
 match x with
 | .agg cs=>if gN then(if off+n≤cs.length then some (.agg ((cs.drop off).take n))else none)else cs[off]?
 | _=>none
def lE(sz:Nat)(x i:D):Option D:=
 match x,i with
 | .sl fm es,.val (.int _ n)=>if fm=sz∧0≤n∧n<es.length then some (.eG (es.getD n.toNat []))else none
 | .eu v g fm off len,.val (.int _ n)=>if fm=sz∧0≤n∧n<len then some (.ptr v g ((off+n.toNat)*sz))else none
 | _,_=>none
def yJ(sz n:Nat)(x i:D):Option D:=
 match x,i with
 | .ptr v g o,.val (.int _ k)=>if 0≤k∧k<n then some (.ptr v g (o+k.toNat*sz))else none
 | .eG cs,.val (.int _ k)=>if 0≤k∧k<n then some (.eG (cs.drop (k.toNat*sz)))else none
 | _,_=>none
def DM(sz n:Nat)(gN:Bool)(x i:D):Option D:=
 match x,i with
 | .agg cs,.val (.int _ k)=>if 0≤k∧k<n then tP (k.toNat*sz) sz gN (.agg cs)else none
 | _,_=>none
def He(x i:D):Option D:=
 match x,i with
 | .val (.string s),.val (.int _ k)=>if 0≤k∧k<s.size then some (.val (.int .u8 ((s.data.toList.getD k.toNat 0).toNat)))else none
 | _,_=>none
def uF(nO:KK)(z:D)(ok:Bool)(m k:D)(H:et):Option D:=
 match m,keyOf k with
 | .fC v,some kv=>match kj H v with
  | some (kk,es)=>if kk=nO∧kk.has kv=true then(match mz es kv with
    | some d=>some (if ok then .tup [d,.val (.bool true)]else d)
    | none=>some (if ok then .tup [z,.val (.bool false)]else z))else none
  | none=>none
 | _,_=>none
def s5(nO:KK)(m k x:D)(H:et):R:=
 match m,keyOf k with
 | .fC v,some kv=>match kj H v with
  | some (kk,es)=>if kk=nO∧kk.has kv=true then some (.any,.obj v (.map kk (kN es kv x)))else none
  | none=>none
 | _,_=>none
def CZ(x:D)(i:Nat):Option D:=
 match x with
 | .tup ds=>ds[i]?
 | _=>none
def wv(t sz bytes:Nat)(z:List D)(l c:D)(v:Nat):R:=
 match l,c with
 | .val (.int _ n),.val (.int _ m)=>if 0≤n∧n≤m∧mu m 9223372036854775807∧mu ((bytes:Int)*m) 281474976710656 then some (.eu v 0 sz 0 n.toNat,.new (.row t 0 (List.replicate m.toNat z).flatten))else none
 | _,_=>none
def pQ(env:fg)(sz:Nat)(x:D)(lo hi:Option X):Option D:=
 match x with
 | .sl fm es=>match gI env lo 0,gI env hi es.length with
  | some l,some h=>if fm=sz∧0≤l∧l≤h∧h≤es.length then some (.sl sz ((es.drop l.toNat).take (h.toNat-l.toNat)))else none
  | _,_=>none
 | .eu v g fm off len=>match gI env lo 0,gI env hi len with
  | some l,some h=>if fm=sz∧0≤l∧l≤h∧h≤len then some (.eu v g sz (off+l.toNat) (h.toNat-l.toNat))else none
  | _,_=>none
 | .U=>match gI env lo 0,gI env hi 0 with
  | some l,some h=>if l=0∧h=0 then some .U else none
  | _,_=>none
 | _=>none
def EH(env:fg)(x:D)(lo hi:Option X):Option D:=
 match x with
 | .val (.string s)=>match gI env lo 0,gI env hi s.size with
  | some l,some h=>if 0≤l∧l≤h∧h≤s.size then some (.val (.string (s.extract l.toNat h.toNat)))else none
  | _,_=>none
 | _=>none
def pf(t sz bytes:Nat)(x y:D)(H:et)(vn:Nat):R:=
 match jy sz H y with
 | some (ys,n)=>match x with
  | .eu v g fm off len=>match rowAt H v g with
   | some (t',cs)=>if fm=sz∧t'=t∧(off+len)*sz≤cs.length∧(len+n)*bytes≤140737488355328∧len+n≤9223372036854775807 then
     some (.eu v (g+1) sz 0 (len+n),.obj v (.row t (g+1) ((cs.drop (off*sz)).take (len*sz)++ys)))else none
   | none=>none
  | .U=>if n=0 then some (.U,.no)else if n*bytes≤140737488355328∧n≤9223372036854775807 then some (.eu vn 0 sz 0 n,.new (.row t 0 ys))else none
  | _=>none
 | none=>none
def vz(sz:Nat)(x y:D)(H:et):R:=
 match x,jy sz H y with
 | .eu v g fm off len,some (ys,n)=>match rowAt H v g with
  | some (t,cs)=>if fm=sz∧(off+len)*sz≤cs.length then
    some (.val (.int .i64 (min n len:Nat)),.obj v (.row t g (cs.take (off*sz)++ys.take (min n len*sz)++cs.drop (off*sz+min n len*sz))))else none
  | none=>none
 | .U,some _=>some (.val (.int .i64 0),.no)
 | _,_=>none
def mw(k:tm)(x:D)(H:et):Option D:=
 match k,x with
 | .slice,.sl _ es=>some (.val (.int .i64 es.length))
 | .slice,.U=>some (.val (.int .i64 0))
 | .slice,.eu _ _ _ _ len=>some (.val (.int .i64 len))
 | .string,.val (.string s)=>some (.val (.int .i64 s.size))
 | .map,.fC v=>match kj H v with
  | some (_,es)=>some (.val (.int .i64 es.length))
  | none=>none
 | _,_=>none
def wu(env:fg)(isMax:Bool)(xs:List X):Option D:=
 match mO env xs with
 | some [a,b]=>some (.val (.int .i64 (if isMax then max a b else min a b)))
 | some [a,b,c]=>some (.val (.int .i64 (if isMax then max (max a b) c else min (min a b) c)))
 | _=>none
def uK(x:D):Option D:=
 match x with
 | .ptr v g o=>some (.ptr v g o)
 | .eG cs=>some (.eG cs)
 | .fn (.func f) a b=>some (.fn (.func f) a b)
 | .gy v=>some (.gy v)
 | _=>none
def CL(k:IntKind)(x:D):Option D:=
 match x with
 | .val (.int _ n)=>some (.val (.int k (k.wrap n)))
 | _=>none
def vr(x:D)(H:et):Option D:=
 match jy 1 H x with
 | some (ys,_)=>match bytesOf ys with
  | some ns=>some (.val (.string (ns.foldl (fun r n=>r.push (UInt8.ofNat n.toNat)) ByteArray.empty)))
  | none=>none
 | none=>none
def lift:Option D→R
 | some d=>some (d,.no)
 | none=>none
def eZ(env:fg)(H:et)(n:Nat):fY→R
 | .mv x=>lift (some (ev env x))
 | .pick c a b=>lift (uP (ev env c) (ev env a) (ev env b))
 | .box t x=>mZ t (ev env x) n
 | .alloc t z=>some (.ptr n 0 0,.new (.row t 0 z))
 | .build z ps=>lift (vt env z ps)
 | .buildSl t sz z m ps=>sf env t sz z m ps n
 | .ld1 x=>lift (qz (ev env x) H)
 | .ldN m x=>lift (qA m (ev env x) H)
 | .st1 a x=>u3 (ev env a) (ev env x) H
 | .stN m a x=>u4 m (ev env a) (ev env x) H
 | .nilck x=>lift (uK (ev env x))
 | .arith op x y=>lift (jc op (ev env x) (ev env y))
 | .eqS gN ls neg x y=>lift (tK gN ls neg (ev env x) (ev env y))
 | .un op x=>lift (zY op (ev env x))
 | .conv k x=>lift (CL k (ev env x))
 | .b2s x=>lift (vr (ev env x) H)
 | .mkfn f first cap=>lift (some (.fn f (first.map (ev env)) (cap.map (ev env))))
 | .mkmap kk=>some (.fC n,.new (.map kk []))
 | .mksl t sz bytes z l c=>wv t sz bytes z (ev env l) (ev env c) n
 | .slc sz x lo hi=>lift (pQ env sz (ev env x) lo hi)
 | .slcS x lo hi=>lift (EH env (ev env x) lo hi)
 | .fieldA off x=>lift (xW off (ev env x))
 | .field off m gN x=>lift (tP off m gN (ev env x))
 | .idxA sz x i=>lift (lE sz (ev env x) (ev env i))
 | .idxArr sz m x i=>lift (yJ sz m (ev env x) (ev env i))
 | .idx sz m gN x i=>lift (DM sz m gN (ev env x) (ev env i))
 | .idxStr x i=>lift (He (ev env x) (ev env i))
 | .lookup kk z ok m k=>lift (uF kk z ok (ev env m) (ev env k) H)
 | .mapUpd kk m k x=>s5 kk (ev env m) (ev env k) (ev env x) H
 | .ext x i=>lift (CZ (ev env x) i)
 | .call _ _ | .callN _ _ | .callv _ _=>none
 | .app t sz bytes x y=>pf t sz bytes (ev env x) (ev env y) H n
 | .copy sz x y=>vz sz (ev env x) (ev env y) H
 | .len k x=>lift (mw k (ev env x) H)
 | .minmax isMax xs=>lift (wu env isMax xs)
 | .nilS .. | .capE .. | .appZ .. | .clr .. | .rangeS .. | .nextS .. | .rangeM .. | .nextM .. | .entry .. => none
section
variable{env:fg}{H:et}{al:Al}{d:D}{δ:Dl}{K:gQ}
theorem YY{a b c:D}(h:uP a b c=some d)(hk:K d H):zh a b c H K:=by
 unfold uP at h
 unfold zh
 (repeat' split at h)<;>simp_all
theorem TC{x:D}(h:qz x H=some d)(hk:K d H):yP x H K:=by
 unfold qz at h
 unfold yP
 (repeat' split at h)<;>simp_all
theorem TD{n:Nat}{x:D}(h:qA n x H=some d)(hk:K d H):yQ n x H K:=by
 unfold qA at h
 unfold yQ
 (repeat' split at h)<;>simp_all
theorem OR{z:List D}{ps:List (Nat×Nat×X)}(h:vt env z ps=some d)(hk:K d H):tw env z ps H K:=by
 unfold vt at h
 unfold tw
 (repeat' split at h)<;>simp_all
theorem Uj{x:D}(h:uK x=some d)(hk:K d H):za x H K:=by
 unfold uK at h
 unfold za
 (repeat' split at h)<;>simp_all
theorem aaq{op:UnOp}{x:D}(h:zY op x=some d)(hk:K d H):zX op x H K:=by
 unfold zY at h
 unfold zX
 (repeat' split at h)<;>simp_all
theorem PR{b:Bool}{ls:List lH}{neg:Bool}{x y:D}(h:tK b ls neg x y=some d)(hk:K d H):sy b ls neg x y H K:=by
 unfold tK at h
 unfold sy
 (repeat' split at h)<;>simp_all
theorem Ps{k:IntKind}{x:D}(h:CL k x=some d)(hk:K d H):xL k x H K:=by
 unfold CL at h
 unfold xL
 (repeat' split at h)<;>simp_all
theorem OD{x:D}(h:vr x H=some d)(hk:K d H):xw x H K:=by
 unfold vr at h
 unfold xw
 (repeat' split at h)<;>simp_all
theorem ZX{sz:Nat}{x:D}{lo hi:Option X}(h:pQ env sz x lo hi=some d)(hk:K d H):zK env sz x lo hi H K:=by
 unfold pQ at h
 unfold zK
 (repeat' split at h)<;>simp_all
theorem ZV{x:D}{lo hi:Option X}(h:EH env x lo hi=some d)(hk:K d H):wL env x lo hi H K:=by
 unfold EH at h
 unfold wL
 (repeat' split at h)<;>simp_all
theorem Qi{off:Nat}{x:D}(h:xW off x=some d)(hk:K d H):xV off x H K:=by
 unfold xW at h
 unfold xV
 (repeat' split at h)<;>simp_all
theorem KB{off n:Nat}{b:Bool}{x:D}(h:tP off n b x=some d)(hk:K d H):tO off n b x H K:=by
 unfold tP at h
 unfold tO
 (repeat' split at h)<;>simp_all
theorem S0{sz:Nat}{x i:D}(h:lE sz x i=some d)(hk:K d H):yH sz x i H K:=by
 unfold lE at h
 unfold yH
 (repeat' split at h)<;>simp_all
theorem S1{sz n:Nat}{x i:D}(h:yJ sz n x i=some d)(hk:K d H):yI sz n x i H K:=by
 unfold yJ at h
 unfold yI
 (repeat' split at h)<;>simp_all
theorem S2{x i:D}(h:He x i=some d)(hk:K d H):yL x i H K:=by
 unfold He at h
 unfold yL
 (repeat' split at h)<;>simp_all
theorem TW{kk:KK}{z:D}{ok:Bool}{m k:D}(h:uF kk z ok m k H=some d)(hk:K d H):yT kk z ok m k H K:=by
 unfold uF at h
 unfold yT
 split at h
 ·split at h
  ·split at h
   ·rename_i hc
    obtain⟨rfl,hc⟩:=hc
    simp only[*,true_and]
    split at h
    ·rename_i heq;cases h;simp only[heq];exact hk
    ·rename_i heq;cases h;simp only[heq];exact hk
   ·cases h
  ·cases h
 ·cases h
theorem PT{x:D}{i:Nat}(h:CZ x i=some d)(hk:K d H):xU x i H K:=by
 unfold CZ at h
 unfold xU
 (repeat' split at h)<;>simp_all
theorem TO{k:tm}{x:D}(h:mw k x H=some d)(hk:K d H):yR k x H K:=by
 unfold mw at h
 unfold yR
 (repeat' split at h)<;>simp_all
theorem T'{b:Bool}{xs:List X}(h:wu env b xs=some d)(hk:K d H):y6 env b xs H K:=by
 unfold wu at h
 unfold y6
 (repeat' split at h)<;>simp_all
theorem Ox{op:BinOp}{k:IntKind}{a b:Int}(h:ij op k a b=some d)(hk:K d H):xu op k a b H K:=by
 unfold ij at h
 unfold xu
 (repeat' split at h)<;>simp_all
theorem ZR{op:BinOp}{k:IntKind}{a b:Int}(h:Iq op k a b=some d)(hk:K d H):zJ op k a b H K:=by
 unfold Iq at h
 unfold zJ
 (repeat' split at h)<;>simp_all
theorem aak{op:BinOp}{a b:ByteArray}(h:wQ op a b=some d)(hk:K d H):EN op a b H K:=by
 unfold wQ at h
 unfold EN
 (repeat' split at h)<;>simp_all [mu]
theorem ON{t:TypeId}{x:D}(h:mZ t x al.1=some (d,δ))(hk:K d (δ.app H al)):xA t x al K:=by
 unfold mZ at h
 unfold xA
 (repeat' split at h)<;>cases h<;>simp_all [Dl.app]
theorem OQ{t sz:Nat}{z:List D}{m:Nat}{ps:List (Nat×X)}(h:sf env t sz z m ps al.1=some (d,δ))(hk:K d (δ.app H al)):xB env t sz z m ps al K:=by
 unfold sf at h
 unfold xB
 (repeat' split at h)<;>cases h<;>simp_all [Dl.app]
theorem zB{v g:Nat}{x:TypeId×List D}(h:rowAt H v g=some x):H[v]? = some (.row x.1 g x.2):=by
 unfold rowAt at h
 split at h
 ·split at h
  ·rename_i e;subst e;cases h;assumption
  ·cases h
 ·cases h
theorem aai{a x:D}(h:u3 a x H=some (d,δ))(hk:K d (δ.app H al)):zM a x H K:=by
 unfold u3 at h
 unfold zM
 split at h
 ·split at h
  ·rename_i v g o _ t cs fy
   split at h
   ·rename_i hc
    cases h
    simp only[fy]
    refine⟨hc.1,hc.2,?_⟩
    simp only[Dl.app,zB fy]at hk
    have e:cs.set o x=cs.take o ++ [x]++cs.drop (o + [x].length):=by
     rw[cp,if_pos hc.1];simp
    rw[e]
    exact hk
   ·cases h
  ·cases h
 ·cases h
theorem aaj{n:Nat}{a x:D}(h:u4 n a x H=some (d,δ))(hk:K d (δ.app H al)):zN n a x H K:=by
 unfold u4 at h
 unfold zN
 split at h
 ·split at h
  ·rename_i v g o xs _ _ t cs fy
   split at h
   ·rename_i hc
    cases h
    simp only[*]
    refine⟨trivial,trivial,?_⟩
    simp only[Dl.app,zB fy]at hk
    rw[hc.1]at hk
    exact hk
   ·cases h
  ·cases h
 ·cases h
theorem Ub{t sz bytes:Nat}{z:List D}{l c:D}(h:wv t sz bytes z l c al.1=some (d,δ))(hk:K d (δ.app H al)):y7 t sz bytes z l c al K:=by
 unfold wv at h
 unfold y7
 (repeat' split at h)<;>cases h<;>simp_all [Dl.app,mu]
theorem T8{kk:KK}{m k x:D}(h:s5 kk m k x H=some (d,δ))(hk:K d (δ.app H al)):yY kk m k x H K:=by
 unfold s5 at h
 unfold yY
 split at h
 ·split at h
  ·split at h
   ·rename_i hc
    obtain⟨rfl,hc⟩:=hc
    cases h
    simp only[*,true_and]
    exact hk
   ·cases h
  ·cases h
 ·cases h
theorem Ow{t sz bytes:Nat}{x y:D}(h:pf t sz bytes x y H al.1=some (d,δ))(hk:K d (δ.app H al)):xt t sz bytes x y H al K:=by
 unfold pf at h
 unfold xt
 (repeat' split at h)<;>cases h<;>simp_all [Dl.app]
theorem Pu{sz:Nat}{x y:D}(h:vz sz x y H=some (d,δ))(hk:K d (δ.app H al)):xO sz x y H K:=by
 unfold vz at h
 unfold xO
 (repeat' split at h)<;>cases h<;>simp_all [Dl.app]
theorem OG{op:BinOp}{x y:D}(h:jc op x y=some d)(hk:K d H):xy op x y H K:=by
 unfold jc at h
 unfold xy
 split at h
 ·split at h
  ·rename_i hs;simp only[hs,if_true];exact ZR h hk
  ·rename_i hs
   simp only[hs]
   split at h
   ·rename_i e;exact⟨e,Ox h hk⟩
   ·cases h
 ·exact aak h hk
 ·cases h
theorem S3{sz n:Nat}{b:Bool}{x i:D}(h:DM sz n b x i=some d)(hk:K d H):yK sz n b x i H K:=by
 unfold DM at h
 unfold yK
 split at h
 ·split at h
  ·rename_i hc;exact⟨hc,KB h hk⟩
  ·cases h
 ·cases h
theorem jJ{o:Option D}(h:lift o=some (d,δ)):o=some d∧δ = .no:=by
 cases o<;>simp[lift]at h
 exact⟨by rw[h.1],h.2.symm⟩
theorem JJ{io:fY}(h:eZ env H al.1 io=some (d,δ))(hk:K d (δ.app H al)):xp env H al K io:=by
 cases io<;>simp only[eZ]at h<;>simp only[xp]
 case mv=>obtain⟨h2,rfl⟩:=jJ h;cases h2;exact hk
 case mkfn=>obtain⟨h2,rfl⟩:=jJ h;cases h2;exact hk
 case alloc=>cases h;exact hk
 case mkmap=>cases h;exact hk
 case call=>cases h
 case callN=>cases h
 case callv=>cases h
 case nilS=>cases h
 case capE=>cases h
 case appZ=>cases h
 case clr=>cases h
 case rangeS=>cases h
 case nextS=>cases h
 case rangeM=>cases h
 case nextM=>cases h
 case entry=>cases h
 case box=>exact ON h hk
 case buildSl=>exact OQ h hk
 case st1=>exact aai h hk
 case stN=>exact aaj h hk
 case mksl=>exact Ub h hk
 case mapUpd=>exact T8 h hk
 case app=>exact Ow h hk
 case copy=>exact Pu h hk
 case pick=>obtain⟨h2,rfl⟩:=jJ h;exact YY h2 hk
 case build=>obtain⟨h2,rfl⟩:=jJ h;exact OR h2 hk
 case ld1=>obtain⟨h2,rfl⟩:=jJ h;exact TC h2 hk
 case ldN=>obtain⟨h2,rfl⟩:=jJ h;exact TD h2 hk
 case nilck=>obtain⟨h2,rfl⟩:=jJ h;exact Uj h2 hk
 case arith=>obtain⟨h2,rfl⟩:=jJ h;exact OG h2 hk
 case eqS=>obtain⟨h2,rfl⟩:=jJ h;exact PR h2 hk
 case un=>obtain⟨h2,rfl⟩:=jJ h;exact aaq h2 hk
 case conv=>obtain⟨h2,rfl⟩:=jJ h;exact Ps h2 hk
 case b2s=>obtain⟨h2,rfl⟩:=jJ h;exact OD h2 hk
 case slc=>obtain⟨h2,rfl⟩:=jJ h;exact ZX h2 hk
 case slcS=>obtain⟨h2,rfl⟩:=jJ h;exact ZV h2 hk
 case fieldA=>obtain⟨h2,rfl⟩:=jJ h;exact Qi h2 hk
 case field=>obtain⟨h2,rfl⟩:=jJ h;exact KB h2 hk
 case idxA=>obtain⟨h2,rfl⟩:=jJ h;exact S0 h2 hk
 case idxArr=>obtain⟨h2,rfl⟩:=jJ h;exact S1 h2 hk
 case idx=>obtain⟨h2,rfl⟩:=jJ h;exact S3 h2 hk
 case idxStr=>obtain⟨h2,rfl⟩:=jJ h;exact S2 h2 hk
 case lookup=>obtain⟨h2,rfl⟩:=jJ h;exact TW h2 hk
 case ext=>obtain⟨h2,rfl⟩:=jJ h;exact PT h2 hk
 case len=>obtain⟨h2,rfl⟩:=jJ h;exact TO h2 hk
 case minmax=>obtain⟨h2,rfl⟩:=jJ h;exact T' h2 hk
end
end Go.AL
namespace Go.AL
open Go
mutual
def flat:D→Bool
 | .any | .val _ | .U=>true
 | .agg cs | .tup cs=>qh cs
 | .sl _ es=>es.isEmpty
 | _=>false
def qh:List D→Bool
 | []=>true
 | d::ds=>flat d&&qh ds
end
def chunks(sz:Nat):Nat→List D→List (List D)
 | 0,_=>[]
 | n+1,cs=>cs.take sz::chunks sz n (cs.drop sz)
def eC(ρ:Nat→Option Nat)(H:et):Nat→D→D
 | 0,d=>if closed d then d else .any
 | k+1,d=>if closed d then d else match d with
  | .agg cs=>.agg (cs.map (eC ρ H k))
  | .tup cs=>.tup (cs.map (eC ρ H k))
  | .sl sz es=>.sl sz (es.map (·.map (eC ρ H k)))
  | .eG cs=>.eG (cs.map (eC ρ H k))
  | .fn f a b=>.fn f (a.map (eC ρ H k)) (b.map (eC ρ H k))
  | .eu v g sz off len=>match ρ v with
   | some v'=>.eu v' g sz off len
   | none=>match rowAt H v g with
    | some (_,cs)=>if (off+len)*sz≤cs.length then .sl sz (chunks sz len ((cs.drop (off*sz)).map (eC ρ H k)))else .any
    | none=>.any
  | .ptr v g off=>match ρ v with
   | some v'=>.ptr v' g off
   | none=>match rowAt H v g with
    | some (_,cs)=>.eG ((cs.drop off).map (eC ρ H k))
    | none=>.any
  | .fC v=>match ρ v with
   | some v'=>.fC v'
   | none=>.any
  | .gy v=>match ρ v with
   | some v'=>.gy v'
   | none=>.any
  | d=>d
def lF(ρ:Nat→Option Nat)(H:et):Ob→Ob
 | .row t g cs=>.row t g (cs.map (eC ρ H 40))
 | .map kk es=>.map kk (es.map fun x=>(x.1,eC ρ H 40 x.2))
 | .fE rf env st=>.fE rf (env.map fun x=>(x.1,eC ρ H 40 x.2)) st
 | .nR s p=>.nR s p
 | .jK m since seen=>.jK (eC ρ H 40 m) since seen
 | .jA=>.jA
 | .dead=>.dead
 | .jn=>.dead
abbrev km:=List (Nat×Bool)
def fW(ks:km)(v:Nat):Option Nat:=ks.findIdx? (fun p=>p.2&&p.1 == v)
def mT(ks:km)(H:et):et:=ks.map fun p=>if p.2 then(match H[p.1]? with|some o=>lF (fW ks) H o|none=>.dead)else .dead
def gD(n:Nat):D→List Nat
 | .eu v _ _ _ _=>if n≤v then [v]else []
 | .ptr v _ _=>if n≤v then [v]else []
 | .fC v=>if n≤v then [v]else []
 | .gy v=>if n≤v then [v]else []
 | _=>[]
def lU(n:Nat):Ob→List Nat
 | .row _ _ cs=>(cs.map (gD n)).flatten
 | .map _ es=>(es.map fun x=>gD n x.2).flatten
 | _=>[]
def dedup:List Nat→List Nat
 | []=>[]
 | x::r=>if x∈r then dedup r else x::dedup r
def gx(n:Nat)(K:List Nat):km:=((List.range n).map fun v=>(v,true))++K.map fun v=>(v,true)
def forget(live:List Nat)(env:Env):Env:=live.map fun k=>(k,env.get k)
structure St where
 env:Env
 H:et
 marks:List Nat:=[]
 fV:Bool:=false
 deriving Inhabited
def cut(n:Nat)(live:List Nat)(s:St):St:=
 let env:=forget live s.env
 if s.H.length≤n then{ s with env:=env }else
 let K:=dedup (((env.map fun p=>gD n p.2).flatten++((s.H.take n).map (lU n)).flatten++s.marks.filter (n≤·)).filter (· < s.H.length))
 let ks:=gx n K
 { s with env:=env.map fun p=>(p.1,eC (fW ks) s.H 40 p.2),H:=mT ks s.H,marks:=s.marks.map fun v=>(fW ks v).getD v }
def wA(n:Nat):D→List Nat
 | .eu v _ _ 0 _=>if n≤v then [v]else []
 | .tup ds=>(ds.map fun d=>match d with | .eu v _ _ 0 _=>if n≤v then [v]else []|_=>[]).flatten
 | _=>[]
inductive IR where
 | skip
 | ops (l:List eX)
 | eN (gM:List (Nat×Nat)) (l:List eX)
 | jN (gM:List (Nat×Nat)) (l es:List eX)
 | seq (a b:IR)
 | cond (c:X) (a b:IR)
 | block (id:Nat) (live:List Nat) (a:IR)
 | loop (live:List Nat) (a:IR)
 | jY (rf:Nat) (live:List Nat) (x:X)
 | exit (id:Nat)
 | ret
 | bad
 | fz (S:List Nat) (a:IR)
 | po (S:List Nat) (a b:List eX)
 deriving Inhabited
inductive p5 where
 | tmp (t:Nat)
 | sh (t:Nat)
 | jF (n t:Nat)
 deriving Inhabited
structure eA where
 ntmps:Nat
 body:IR
 results:List p5
 full:Bool:=false
 own:Nat:=0
 fz:Bool:=false
 deriving Inhabited
def wH(s:St):p5→Option D
 | .tmp t=>some (s.env.get t)
 | .sh t=>qz (s.env.get t) s.H
 | .jF n t=>qA n (s.env.get t) s.H
def o9(s:St):List p5→Option (List D)
 | []=>some []
 | x::r=>match wH s x,o9 s r with
  | some d,some l=>some (d::l)
  | _,_=>none
def results(fn:eA)(s:St):Option D:=match o9 s fn.results with
 | some [d]=>some d
 | some ds=>some (.tup ds)
 | none=>none
def oC(args:List D):Env:=args.zipIdx.map fun p=>(p.2,p.1)
def oJ:List Nat→List D→Env→Env
 | k::ks,d::ds,env=>oJ ks ds ((k,d)::env)
 | _,_,env=>env
def iw(env:fg):fY→Option (FuncId×List D)
 | .call f args=>some (f,args.map (ev env))
 | .callN f args=>some (f,args.map (ev env))
 | .callv f args=>match ev env f with
  | .fn (.func k) first cap=>some (k,first++args.map (ev env)++cap)
  | _=>none
 | _=>none
def yM:fY→Bool
 | .call _ _ | .callN _ _ | .callv _ _=>true
 | _=>false
def guardOf(env:fg):Option (Nat×Bool)→Option Bool
 | none=>some true
 | some (s,want)=>match env s with
  | .val (.bool b)=>some (b == want)
  | .val (.tuple _)=>some false
  | _=>none
def rG(n:Nat):D→D
 | .eu v g sz off len=>.eu (v+n) g sz off len
 | d=>d
def iB(n:Nat):D→D
 | .eu v g sz off len=>.eu (v+n) g sz off len
 | .tup ds=>.tup (ds.map (rG n))
 | .agg ds=>.agg (ds.map (rG n))
 | d=>d
def kU:Ob→Bool
 | .row _ _ cs=>eV cs
 | _=>false
def l4:Ob→Bool
 | .row _ _ cs=>qh cs
 | _=>false
def rK(p:D→Bool):D→Bool
 | .eu .. => true
 | d=>p d
def qE(p:D→Bool):D→Bool
 | .eu .. => true
 | .tup ds=>ds.all (rK p)
 | .agg ds=>ds.all (rK p)
 | d=>p d
def jX:D→Bool:=qE closed
def lV:D→Bool:=qE flat
def rowsOf(H:et)(v:Nat):Option (TypeId×Nat×List D):=match H[v]? with
 | some (.row t g cs)=>some (t,g,cs)
 | _=>none
def fD(H:et):Nat→D→List Nat
 | 0,_=>[]
 | k+1,d=>if closed d then []else match d with
  | .agg cs | .tup cs | .eG cs=>(cs.map (fD H k)).flatten
  | .sl _ es=>(es.map fun e=>(e.map (fD H k)).flatten).flatten
  | .fn _ a b=>(a.map (fD H k)).flatten++(b.map (fD H k)).flatten
  | .eu v _ _ _ _ | .ptr v _ _=>v::(match rowsOf H v with
   | some (_,_,cs)=>(cs.map (fD H k)).flatten
   | none=>[])
  | .fC v | .gy v=>[v]
  | _=>[]
def leave(own:Nat)(n:Nat)(H:et)(d:D):D×et:=
 if H.length≤n then(d,H)else
 let K:=dedup (((match own with|0=>[]|1=>wA n d|3=>((fD H 40 d).filter (n≤·)).take 1|_=>(fD H 40 d).filter (n≤·))++((H.take n).map (lU n)).flatten).filter (· < H.length))
 let ks:=gx n K
 (eC (fW ks) H 40 d,mT ks H)
def jC(H:et)(S:List Nat):km:=(List.range H.length).map fun v=>(v,!(S.contains v))
structure mi where
 params:List Nat
 a:IR
 b:IR
 deriving Inhabited
structure fH where
 fn:FuncId→Option eA
 round:Nat→Option mi:=fun _=>none
 sort:FuncId→Option Nat:=fun _=>none
 oL:FuncId→Bool:=fun _=>false
def after(s:St)(dst:Option Nat)(args:List D)(r:D)(Hn:et):Option St:=
 if (if eV args then jX r&&Hn.all kU else lV r&&Hn.all l4)then
  some { s with env:=put s.env dst (iB s.H.length r),H:=s.H++Hn }else none
def jk(S:List Nat)(s:St):St:=
 let ks:=jC s.H S
 { s with env:=s.env.map fun p=>(p.1,eC (fW ks) s.H 40 p.2),H:=mT ks s.H }
end Go.AL
namespace Go.AL
open Go
theorem q6{ds:List D}(h:eV ds=true){i:Nat}{d:D}(hd:ds[i]? = some d):closed d=true:=by
 induction ds generalizing i with
 | nil=>simp at hd
 | cons x xs ih=>
  simp only[eV,ah]at h
  cases i with
  | zero=>simp at hd;subst hd;exact h.1
  | succ i=>exact ih h.2 (by simpa using hd)
theorem O9{es:List (List D)}(h:vw es=true){i:Nat}{e:List D}(he:es[i]? = some e):eV e=true:=by
 induction es generalizing i with
 | nil=>simp at he
 | cons x xs ih=>
  simp only[vw,ah]at h
  cases i with
  | zero=>simp at he;subst he;exact h.1
  | succ i=>exact ih h.2 (by simpa using he)
theorem ew.closed{c c':Ctx}{w:World}(hF:∀ b,c.F b→c'.F b){u:Value}{d:D}(h:ew c w u d)(hc:closed d=true):ew c' w u d:=by
 induction h with
 | any v=>exact .any _
 | val v=>exact .val _
 | agg vs ds hl h1 h ih=>exact .agg vs _ hl h1 fun i v d hv hd=>ih i v d hv hd (q6 hc hd)
 | tup vs ds hl h ih=>exact .tup vs _ hl fun i v d hv hd=>ih i v d hv hd (q6 hc hd)
 | sl a len cap sz es g hlen ik iJ fO lS l8 hr ih=>
  refine .sl a len cap sz _ g hlen ik iJ fO lS ?_ fun i e j d he hd=>ih i e j d he hd (q6 (O9 hc he) hd)
  intro i e j d he hd
  obtain⟨b,o,ha,n5,tZ,h1⟩:=l8 i e j d he hd
  exact⟨b,o,ha,hF b n5,tZ,h1⟩
 | U=>exact .U
 | eu=>cases hc
 | kl=>cases hc
 | ptr=>cases hc
 | eG b o cs g n5 l8 hr ih=>exact .eG b o _ g (hF b n5) l8 fun j d hd=>ih j d hd (q6 hc hd)
 | fC=>cases hc
 | fn f fs cs df dc iP il h1 h2 nq oq=>
  simp only[AL.closed,ah]at hc
  exact .fn f fs cs _ _ iP il (fun i v d hv hd=>nq i v d hv hd (q6 hc.1 hd)) (fun i v d hv hd=>oq i v d hv hd (q6 hc.2 hd))
 | gy=>cases hc
theorem vG{ds:List D}(h:qh ds=true){i:Nat}{d:D}(hd:ds[i]? = some d):flat d=true:=by
 induction ds generalizing i with
 | nil=>simp at hd
 | cons x xs ih=>
  simp only[qh,ah]at h
  cases i with
  | zero=>simp at hd;subst hd;exact h.1
  | succ i=>exact ih h.2 (by simpa using hd)
theorem ew.flat{c c':Ctx}{w:World}{u:Value}{d:D}(h:ew c w u d)(hc:flat d=true):ew c' w u d:=by
 induction h with
 | any v=>exact .any _
 | val v=>exact .val _
 | agg vs ds hl h1 h ih=>exact .agg vs _ hl h1 fun i v d hv hd=>ih i v d hv hd (vG hc hd)
 | tup vs ds hl h ih=>exact .tup vs _ hl fun i v d hv hd=>ih i v d hv hd (vG hc hd)
 | sl a len cap sz es g hlen ik iJ fO lS l8 hr ih=>
  simp only[AL.flat,cr]at hc
  subst hc
  exact .sl a len cap sz _ g hlen ik iJ (by simp) lS (by simp) (by simp)
 | U=>exact .U
 | eu=>cases hc
 | kl=>cases hc
 | ptr=>cases hc
 | eG=>cases hc
 | fC=>cases hc
 | fn=>cases hc
 | gy=>cases hc
theorem JR(sz:Nat):∀ (n:Nat) (cs:List D),(chunks sz n cs).length=n
 | 0,_=>rfl
 | n+1,cs=>by simp[chunks,JR sz n]
theorem Fi(sz:Nat):∀ (n:Nat) (cs:List D) (i:Nat) (e:List D),(chunks sz n cs)[i]? = some e→i<n∧e=(cs.drop (i*sz)).take sz
 | 0,_,i,e,h=>by simp[chunks]at h
 | n+1,cs,0,e,h=>by simp[chunks]at h;subst h;simp
 | n+1,cs,i+1,e,h=>by
  simp only[chunks,dL]at h
  obtain⟨h1,h2⟩:=Fi sz n _ i e h
  refine⟨by omega,?_⟩
  rw[h2,cS]
  congr 2
  rw[aV];omega
theorem ZU{c:Ctx}{w:World}{b o sz len cap:Nat}{vs:List Value}{ds:List D}(hF:c.F b)(hc:Cells c w vs ds)(hl:ds.length=len*sz)(ik:len≤cap)(iJ:cap≤maxLen)
  (hv:∀ (j:Nat) (v:Value),vs[j]? = some v→w.cell? ⟨b,o+j,none⟩=some v):ew c w (.slice (some ⟨b,o,none⟩) len cap) (.sl sz (chunks sz len ds)):=by
 have gK:∀ (i:Nat) (e:List D) (j:Nat) (d:D),(chunks sz len ds)[i]? = some e→e[j]? = some d→ds[i*sz+j]? = some d∧j<sz:=by
  intro i e j d he hd
  obtain⟨_,rfl⟩:=Fi sz len ds i e he
  rw[ay]at hd
  split at hd
  ·rename_i hj;rw[aC]at hd;exact⟨hd,hj⟩
  ·cases hd
 refine .sl _ len cap sz _ (fun i j=>vs.getD (i*sz+j) undef) (JR _ _ _) ik iJ ?_ (by simp) ?_ ?_
 ·intro e he
  obtain⟨i,hi⟩:=aD.1 he
  obtain⟨h1,rfl⟩:=Fi sz len ds i e hi
  simp only[aP,bk,hl]
  have:(i+1)*sz≤len*sz:=bh _ h1
  rw[aV]at this
  omega
 ·intro i e j d he hd
  obtain⟨h1,_⟩:=gK i e j d he hd
  obtain⟨v,kY,mb,_⟩:=hc.get h1
  refine⟨b,o,rfl,hF,?_,?_⟩
  ·simp only[List.getD,kY,aR];exact hv _ _ kY
  ·simp only[List.getD,kY,aR];exact mb
 ·intro i e j d he hd
  obtain⟨h1,_⟩:=gK i e j d he hd
  obtain⟨v,kY,_,G5⟩:=hc.get h1
  simp only[List.getD,kY,aR];exact G5
theorem Cells.map{c c':Ctx}{w:World}{f:D→D}(hr:∀ v d,ew c w v d→ew c' w v (f d)){vs:List Value}{cs:List D}(h:Cells c w vs cs):Cells c' w vs (cs.map f):=
 ⟨by simpa using h.len,h.one,fun i v d hv hd=>by
  simp only[ar,ai]at hd
  obtain⟨d0,iM,rfl⟩:=hd
  exact hr _ _ (h.rep i v d0 hv iM)⟩
def Ctx.eC(c:Ctx)(ks:km)(H:et):Ctx where
 ι:=fun i g=>match ks[i]? with
  | some p=>c.ι p.1 g
  | none=>none
 F:=fun b=>c.F b∨∃ v L,jg c H v L∧fW ks v=none∧L.gP=false∧L.b=b
 RT:=c.RT
theorem NB{ks:km}{v i:Nat}(h:fW ks v=some i):ks[i]? = some (v,true):=by
 unfold fW at h
 rw[cY]at h
 obtain⟨hi,hp,_⟩:=h
 simp only[ah,beq_iff_eq]at hp
 rw[List.getElem?_eq_getElem hi]
 congr 1
 exact Prod.ext hp.2 hp.1
theorem NA{ks:km}{v:Nat}(h:fW ks v=none)(i:Nat):ks[i]?≠some (v,true):=by
 intro hi
 unfold fW at h
 rw[dD]at h
 have:=h _ (aY hi)
 simp at this
section
variable{G:GT}{c:Ctx}{H:et}{w:World}{ks:km}
theorem wT{v i g:Nat}(h:fW ks v=some i):(c.eC ks H).ι i g=c.ι v g:=by simp[Ctx.eC,NB h]
theorem vi{b:Nat}(h:c.F b):(c.eC ks H).F b:=Or.inl h
theorem Ju{v:Nat}{L:Loc}(h1:jg c H v L)(h2:fW ks v=none)(h3:L.gP=false):(c.eC ks H).F L.b:=Or.inr ⟨v,L,h1,h2,h3,rfl⟩
theorem s8(h:eP G c H w):∀ (k:Nat) {u:Value} {d:D},ew c w u d→ew (c.eC ks H) w u (eC (fW ks) H k d)
 | 0,u,d,hr=>by
  unfold AL.eC
  split
  ·rename_i hc;exact hr.closed (fun b hb=>vi hb) hc
  ·exact .any _
 | k+1,u,d,hr=>by
  have ih:=fun{u:Value} {d:D} (hr:ew c w u d)=>s8 h k hr
  unfold AL.eC
  split
  ·rename_i hc;exact hr.closed (fun b hb=>vi hb) hc
  ·cases hr with
   | any v=>exact .any _
   | val v=>exact .val _
   | agg vs ds hl h1 h2=>
     refine .agg vs _ (by simpa using hl) h1 fun i v d hv hd=>?_
     simp only[ar,ai]at hd
     obtain⟨d0,iM,rfl⟩:=hd
     exact ih (h2 i v d0 hv iM)
   | tup vs ds hl h2=>
     refine .tup vs _ (by simpa using hl) fun i v d hv hd=>?_
     simp only[ar,ai]at hd
     obtain⟨d0,iM,rfl⟩:=hd
     exact ih (h2 i v d0 hv iM)
   | sl a len cap sz es g hlen ik iJ fO lS l8 hr=>
    refine .sl a len cap sz _ g (by simpa using hlen) ik iJ ?_ lS ?_ ?_
    ·intro e he
     simp only[aw]at he
     obtain⟨e0,yd,rfl⟩:=he
     simpa using fO e0 yd
    ·intro i e j d he hd
     simp only[ar,ai]at he
     obtain⟨e0,yd,rfl⟩:=he
     simp only[ar,ai]at hd
     obtain⟨d0,iM,rfl⟩:=hd
     obtain⟨b,o,ha,n5,tZ,h1⟩:=l8 i e0 j d0 yd iM
     exact⟨b,o,ha,vi n5,tZ,h1⟩
    ·intro i e j d he hd
     simp only[ar,ai]at he
     obtain⟨e0,yd,rfl⟩:=he
     simp only[ar,ai]at hd
     obtain⟨d0,iM,rfl⟩:=hd
     exact ih (hr i e0 j d0 yd iM)
   | U=>exact .U
   | eu v g sz off len cap L eD hv ik iJ jV=>
    dsimp only
    split
    ·rename_i v' jI
     exact .eu v' g sz off len cap L (by rw[wT jI];exact eD) hv ik iJ jV
    ·rename_i GF
     split
     ·rename_i t cs fy
      split
      ·rename_i jS
       have rz:=pa fy
       obtain⟨arr,h1,h2,h3,h4⟩:=tb h rz eD hv
       have gA:=(((h4.drop (off*sz)).map (fun _ _ hr=>ih hr)).take (len*sz))
       have hlen:((cs.drop (off*sz)).map (AL.eC (fW ks) H k)).length=(cs.length-off*sz):=by simp
       have Gl:chunks sz len ((cs.drop (off*sz)).map (AL.eC (fW ks) H k))=chunks sz len (((cs.drop (off*sz)).map (AL.eC (fW ks) H k)).take (len*sz)):=by
        have key:∀ (n:Nat) (xs:List D),chunks sz n xs=chunks sz n (xs.take (n*sz)):=by
         intro n
         induction n with
         | zero=>intro xs;rfl
         | succ n ih=>
          intro xs
          simp only[chunks]
          rw[cT,Nat.min_eq_left (by rw[aV];omega),ih (xs.drop sz),List.drop_take,show(n+1)*sz-sz=n*sz by rw[aV];omega]
        exact key _ _
       rw[Gl]
       refine ZU (Ju ⟨_,rz,rfl,eD⟩ GF hv) gA ?_ ik iJ fun j x hx=>?_
       ·rw[aP,hlen]
        rw[aV]at jS
        omega
       ·rw[ay]at hx
        split at hx
        ·rw[aC,ay]at hx
         split at hx
         ·rw[aC]at hx
          simp[World.cell?,h1]
          rw[bf]
          simpa using hx
         ·cases hx
        ·cases hx
      ·exact .any _
     ·exact .any _
   | kl v g sz off L eD a=>
    dsimp only
    split
    ·rename_i v' jI
     exact .kl v' g sz off L (by rw[wT jI];exact eD) a
    ·split
     ·split
      ·exact .sl a 0 0 sz _ (fun _ _=>undef) rfl (Nat.le_refl _) (by unfold maxLen;omega) (by simp[chunks]) (fun _=>rfl) (by simp[chunks]) (by simp[chunks])
      ·exact .any _
     ·exact .any _
   | ptr v g off L eD hv=>
    dsimp only
    split
    ·rename_i v' jI
     exact .ptr v' g off L (by rw[wT jI];exact eD) hv
    ·rename_i GF
     split
     ·rename_i t cs fy
      have rz:=pa fy
      obtain⟨arr,h1,h2,h3,h4⟩:=tb h rz eD hv
      refine FU (Ju ⟨_,rz,rfl,eD⟩ GF hv) ⟨_,(h4.drop off).map (fun _ _ hr=>ih hr),fun j x hx=>?_⟩
      rw[aC,ay]at hx
      split at hx
      ·rw[aC]at hx
       simp[World.cell?,h1]
       rw[bf]
       simpa using hx
      ·cases hx
     ·exact .any _
   | eG b o cs g n5 l8 hr=>
    refine .eG b o _ g (vi n5) ?_ ?_
    ·intro j d hd
     simp only[ar,ai]at hd
     obtain⟨d0,iM,rfl⟩:=hd
     exact l8 j d0 iM
    ·intro j d hd
     simp only[ar,ai]at hd
     obtain⟨d0,iM,rfl⟩:=hd
     exact ih (hr j d0 iM)
   | fC v L eD hv=>
    dsimp only
    split
    ·rename_i v' jI;exact .fC v' L (by rw[wT jI];exact eD) hv
    ·exact .any _
   | fn f fs cs df dc iP il h1 h2=>
    refine .fn f fs cs _ _ (by simpa using iP) (by simpa using il) ?_ ?_
    ·intro i v d hv hd
     simp only[ar,ai]at hd
     obtain⟨d0,iM,rfl⟩:=hd
     exact ih (h1 i v d0 hv iM)
    ·intro i v d hv hd
     simp only[ar,ai]at hd
     obtain⟨d0,iM,rfl⟩:=hd
     exact ih (h2 i v d0 hv iM)
   | gy v L eD hv=>
    dsimp only
    split
    ·rename_i v' jI;exact .gy v' L (by rw[wT jI];exact eD) hv
    ·exact .any _
end
end Go.AL
namespace Go.AL
open Go
section
variable{G:GT}{c:Ctx}{H:et}{w:World}{ks:km}
def tl(ks:km):Prop:=∀ (i j:Nat) (p q:Nat×Bool),ks[i]? = some p→ks[j]? = some q→p.1=q.1→i=j
theorem Ij{i:Nat}{o:Ob}(h:(mT ks H)[i]? = some o)(ha:o≠.dead):∃ v o0,ks[i]? = some (v,true)∧H[v]? = some o0∧o=lF (fW ks) H o0:=by
 unfold mT at h
 simp only[ar,ai]at h
 obtain⟨p,hp,he⟩:=h
 split at he
 ·rename_i hb
  split at he
  ·rename_i o0 LA
   exact⟨p.1,o0,by rw[hp,← hb],LA,he.symm⟩
  ·exact absurd he.symm ha
 ·exact absurd he.symm ha
theorem NS{o:Ob}(h:(lF (fW ks) H o).alive=true):o.alive=true∧(lF (fW ks) H o).gen=o.gen:=by
 cases o<;>simp_all [lF,Ob.alive,Ob.gen]
theorem H9{v i:Nat}(hk:tl ks)(h:ks[i]? = some (v,true)):fW ks v=some i:=by
 cases hr:fW ks v with
 | none=>exact absurd h (NA hr i)
 | some j=>
  have:=NB hr
  rw[hk i j _ _ h this rfl]
theorem DV{i:Nat}{L:Loc}(h:jg (c.eC ks H) (mT ks H) i L):∃ v,ks[i]? = some (v,true)∧jg c H v L:=by
 obtain⟨o,ho,ha,eD⟩:=h
 obtain⟨v,o0,h1,h2,rfl⟩:=Ij ho (by intro e;subst e;cases ha)
 obtain⟨a1,a2⟩:=NS ha
 refine⟨v,h1,o0,h2,a1,?_⟩
 rw[a2]at eD
 simpa[Ctx.eC,h1]using eD
theorem Ni{b:Nat}(h:jz (c.eC ks H) (mT ks H) b):jz c H b:=by
 obtain⟨i,L,hl,hv,e⟩:=h
 obtain⟨v,_,h2⟩:=DV hl
 exact⟨v,L,h2,hv,e⟩
theorem wJ(h:eP G c H w)(hk:tl ks):eP G (c.eC ks H) (mT ks H) w where
 inj i j L L' h1 h2 h3 h4 he:=by
  obtain⟨v,k1,l1⟩:=DV h1
  obtain⟨v',k2,l2⟩:=DV h2
  have:=h.inj v v' L L' l1 l2 h3 h4 he
  subst this
  exact hk i j _ _ k1 k2 rfl
 lt b hb:=h.lt b (Ni hb)
 nF b hb hF:=by
  obtain⟨i,L,hl,hv,e⟩:=hb
  obtain⟨v,k1,l1⟩:=DV hl
  rcases hF with hF|⟨v',L',l2,hn,jI,e'⟩
  ·exact h.nF b ⟨v,L,l1,hv,e⟩ hF
  ·have:=h.inj v v' L L' l1 l2 hv jI (e.trans e'.symm)
   subst this
   exact NA hn i k1
 iD b hb:=by
  rcases hb with hb|⟨v,L,l,_,hv,e⟩
  ·exact h.iD b hb
  ·exact h.lt b ⟨v,L,l,hv,e⟩
 out i k hi:=by
  simp only[mT,List.length_map]at hi
  simp[Ctx.eC,aK hi]
 jD i o k ho ie:=by
  have fJ:o≠.dead:=by
   rintro rfl
   rcases ie with ie|⟨ie,_⟩<;>cases ie
  obtain⟨v,o0,h1,h2,rfl⟩:=Ij ho fJ
  rcases ie with ie|⟨ha,hg⟩
  ·cases o0<;>simp[lF]at ie
  ·obtain⟨a1,a2⟩:=NS ha
   have:=h.jD v o0 k h2 (.inr ⟨a1,by rw[← a2];exact hg⟩)
   simpa[Ctx.eC,h1]using this
 ob i o ho:=by
  by_cases fJ:o = .dead
  ·subst fJ;simp[fr]
  ·obtain⟨v,o0,h1,h2,rfl⟩:=Ij ho fJ
   have h0:=h.ob v o0 h2
   have eD:(c.eC ks H).ι i o0.gen=c.ι v o0.gen:=by simp[Ctx.eC,h1]
   have hr:∀ u d,ew c w u d→ew (c.eC ks H) w u (eC (fW ks) H 40 d):=fun u d hd=>s8 h 40 hd
   cases o0 with
   | dead=>simp[lF,fr]
   | jn=>simp[lF,fr]
   | row t g cs=>
    simp only[lF,Ob.gen]at eD ⊢
    rw[eD]
    simp only[Ob.gen]at h0
    cases hL:c.ι v g with
    | none=>rw[hL]at h0;simp[fr]at h0
    | some L=>
     rw[hL]at h0
     simp only[fr]at h0 ⊢
     split
     ·rename_i hv;simp only[hv,if_true]at h0;simp[h0]
     ·rename_i hv
      simp only[hv]at h0
      obtain⟨arr,a1,a2,a3,a4⟩:=h0
      refine⟨arr,a1,a2,by simpa using a3,fun j d hd=>?_⟩
      simp only[ar,ai]at hd
      obtain⟨d0,iM,rfl⟩:=hd
      obtain⟨x,mo,jO,rA⟩:=a4 j d0 iM
      exact⟨x,mo,jO,hr _ _ rA⟩
   | map kk es=>
    simp only[lF,Ob.gen]at eD ⊢
    rw[eD]
    simp only[Ob.gen]at h0
    cases hL:c.ι v 0 with
    | none=>rw[hL]at h0;simp[fr]at h0
    | some L=>
     rw[hL]at h0
     simp only[fr]at h0 ⊢
     obtain⟨hv,jG,arr,clock,a1,a2,a3,a4⟩:=h0
     refine⟨hv,fun x hx=>?_,arr,clock,a1,by simpa using a2,fun j e x he hx=>?_,by simpa using a4⟩
     ·obtain⟨y,hy,rfl⟩:=aw.1 hx
      exact jG y hy
     ·simp only[ar,ai]at hx
      obtain⟨y,hy,rfl⟩:=hx
      obtain⟨p,q,r⟩:=a3 j e y he hy
      exact⟨p,hr _ _ q,r⟩
   | fE rf env st=>
    simp only[lF,Ob.gen]at eD ⊢
    rw[eD]
    simp only[Ob.gen]at h0
    cases hL:c.ι v 0 with
    | none=>rw[hL]at h0;simp[fr]at h0
    | some L=>
     rw[hL]at h0
     simp only[fr]at h0 ⊢
     obtain⟨hv,r,a1,a2,a3,a4⟩:=h0
     refine⟨hv,r,a1,fun k=>?_,a3,a4⟩
     have key:∀ (env:Env) (k:Nat),(Env.get (env.map fun x=>(x.1,eC (fW ks) H 40 x.2)) k)=eC (fW ks) H 40 (env.get k):=by
      intro env k
      induction env with
      | nil=>rfl
      | cons p r ih=>
       obtain⟨j,d⟩:=p
       simp only[List.map_cons,Env.qj]
       split
       ·rfl
       ·exact ih
     rw[key]
     exact hr _ _ (a2 k)
   | nR s p=>
    simp only[lF,Ob.gen]at eD ⊢
    rw[eD]
    simp only[Ob.gen]at h0
    cases hL:c.ι v 0 with
    | none=>rw[hL]at h0;simp[fr]at h0
    | some L=>
     rw[hL]at h0
     simpa only[fr]using h0
   | jK m since seen=>
    simp only[lF,Ob.gen]at eD ⊢
    rw[eD]
    simp only[Ob.gen]at h0
    cases hL:c.ι v 0 with
    | none=>rw[hL]at h0;simp[fr]at h0
    | some L=>
     rw[hL]at h0
     simp only[fr]at h0 ⊢
     obtain⟨a1,a2,bm,a3,a4⟩:=h0
     exact⟨a1,a2,bm,hr _ _ a3,a4⟩
   | jA=>
    simp only[lF,Ob.gen]at eD ⊢
    rw[eD]
    simp only[Ob.gen]at h0
    cases hL:c.ι v 0 with
    | none=>rw[hL]at h0;simp[fr]at h0
    | some L=>
     rw[hL]at h0
     simpa only[fr]using h0
 gl g cs hg:=by
  obtain⟨h1,h2⟩:=h.gl g cs hg
  exact⟨h1,h2.closed (fun b hb=>vi hb) (by simpa[AL.closed]using h1)⟩
 rt:=h.rt
theorem Ip(h:eP G c H w){n:Nat}(hn:∀ v,v<n→(ks[v]?).map (·.1)=some v):Step n c H w (c.eC ks H) (mT ks H) w where
 os:=⟨rfl,Nat.le_refl _⟩
 tape:=rfl
 output:=rfl
 size:=Nat.le_refl _
 RT:=rfl
 Fm b hb:=vi hb
 Fn b hb:=by
  rcases hb with hb|⟨v,L,l,_,hv,e⟩
  ·exact .inl hb
  ·exact .inr (.inr ⟨v,L,l,hv,e⟩)
 kept _ _ _:=rfl
 old v k L hv eD:=by
  have:=hn v hv
  simp only[ai]at this
  obtain⟨p,hp,e⟩:=this
  simp only[Ctx.eC,hp,e]
  exact eD
 own b hb:=.inr (Ni hb)
theorem Qz(env:Env)(k:Nat):(Env.get (env.map fun x=>(x.1,eC (fW ks) H 40 x.2)) k)=eC (fW ks) H 40 (env.get k):=by
 induction env with
 | nil=>rfl
 | cons p r ih=>
  obtain⟨j,d⟩:=p
  simp only[List.map_cons,Env.qj]
  split
  ·rfl
  ·exact ih
theorem Kr(h:eP G c H w){env:Env}{a:Act}(he:iS c w env.get a):iS (c.eC ks H) w (Env.get (env.map fun x=>(x.1,eC (fW ks) H 40 x.2))) a:=fun k=>by
 rw[Qz]
 exact s8 h 40 (he k)
theorem Qq(live:List Nat)(env:Env)(k:Nat):(forget live env).get k = .any∨(forget live env).get k=env.get k:=by
 unfold forget
 induction live with
 | nil=>exact .inl rfl
 | cons x r ih=>
  simp only[List.map_cons,Env.qj]
  split
  ·rename_i e;subst e;exact .inr rfl
  ·exact ih
theorem vA{env:Env}{a:Act}(he:iS c w env.get a)(live:List Nat):iS c w (forget live env).get a:=fun k=>by
 rcases Qq live env k with h|h<;>rw[h]
 ·exact .any _
 ·exact he k
theorem y4{x:Nat}:∀ {l:List Nat},x∈dedup l→x∈l
 | [],h=>h
 | y::r,h=>by
  unfold dedup at h
  split at h
  ·exact aO _ (y4 h)
  ·rcases ax.1 h with rfl|h
   ·exact cL
   ·exact aO _ (y4 h)
theorem CR{x:Nat}:∀ {l:List Nat},x∈l→x∈dedup l
 | y::r,h=>by
  unfold dedup
  split
  ·rename_i hy
   rcases ax.1 h with rfl|h
   ·exact CR hy
   ·exact CR h
  ·rcases ax.1 h with rfl|h
   ·exact cL
   ·exact aO _ (CR h)
theorem D5:∀ (l:List Nat),(dedup l).Nodup
 | []=>List.nodup_nil
 | y::r=>by
  unfold dedup
  split
  ·exact D5 r
  ·rename_i hn
   exact List.nodup_cons.2 ⟨fun h=>hn (y4 h),D5 r⟩
theorem Mn(h:(ks.map (·.1)).Nodup):tl ks:=by
 intro i j p q hp hq e
 have hi:(ks.map (·.1))[i]? = some p.1:=by simp[hp]
 have hj:(ks.map (·.1))[j]? = some q.1:=by simp[hq]
 have qo:=(af.1 hi).1
 have l9:=(af.1 hj).1
 rw[List.getElem?_eq_getElem qo]at hi
 rw[List.getElem?_eq_getElem l9]at hj
 simp only[aq]at hi hj
 exact(List.getElem_inj h).1 (by rw[hi,hj,e])
theorem Mq{n:Nat}{K:List Nat}(hK:∀ v∈K,n≤v)(hd:K.Nodup):tl (gx n K):=by
 apply Mn
 unfold gx
 simp only[List.map_append,cD,dz,List.map_id']
 rw[cm]
 refine⟨List.nodup_range,hd,fun a ha b hb e=>?_⟩
 subst e
 have:=hK a hb
 simp at ha
 omega
theorem Mp{n:Nat}{K:List Nat}(v:Nat)(hv:v<n):((gx n K)[v]?).map (·.1)=some v:=by
 unfold gx
 rw[ag (by simpa using hv)]
 simp[hv]
theorem KS{S:List Nat}:tl (jC H S):=by
 apply Mn
 unfold jC
 simp only[cD,dz,List.map_id']
 exact List.nodup_range
theorem KR{S:List Nat}(v:Nat)(hv:v<H.length):((jC H S)[v]?).map (·.1)=some v:=by
 unfold jC
 simp[hv]
theorem FV{S:List Nat}:(mT (jC H S) H).length=H.length:=by simp[mT,jC]
end
end Go.AL
namespace Go.AL
open Go
def CJ:Operand→Bool
 | .const (.slice none 0 0)=>true
 | _=>false
def wM(P:Program)(t:TypeId):Bool:=match P.underlying t with
 | some (.slice _)=>true
 | _=>false
def nG(P:Program)(G:GT)(o:Oper):Option fY:=
 match o.op with
 | .binOp .eql t x y _=>if wM P t=true∧CJ y=true then(cX G x).map (.nilS false)else none
 | .binOp .neq t x y _=>if wM P t=true∧CJ y=true then(cX G x).map (.nilS true)else none
 | .range t x=>match P.underlying t,cX G x with
  | some .string,some a=>some (.rangeS a)
  | some (.map _ _),some a=>some (.rangeM a)
  | _,_=>none
 | .next x true=>(cX G x).map .nextS
 | .next x false=>(cX G x).map .nextM
 | .entry x=>(cX G x).map .entry
 | .call c=>match c.callee,c.argTypes.toList,c.args.toList with
  | .builtin .cap,[t],[x]=>if wM P t then(cX G x).map .capE else none
  | .builtin .clear,[t],[x]=>match P.underlying t with
   | some (.slice e)=>match mC P e,P.info? e,cX G x with
    | some z,some i,some a=>if z.length=i.size∧0<i.size then some (.clr i.size z a)else none
    | _,_,_=>none
   | _=>none
  | .builtin .append,[t,u],[x,y]=>match P.underlying t,P.underlying u with
   | some (.slice e),some (.int .i64)=>match mC P e,P.info? e,cX G x,cX G y with
    | some z,some i,some a,some b=>if z.length=i.size∧0<i.size then some (.appZ e i.size i.bytes z a b)else none
    | _,_,_,_=>none
   | _,_=>none
  | _,_,_=>none
 | _=>none
def D4(neg:Bool):D→Option D
 | .U=>some (.b !neg)
 | .sl _ (_::_)=>some (.b neg)
 | .eu _ _ _ _ (_+1)=>some (.b neg)
 | _=>none
def Cn(t sz bytes:Nat)(z:List D)(x n:D)(vn:Nat):R:=
 match x,n with
 | .U,.val (.int .i64 m)=>if 0<m∧mu (m*bytes) 140737488355328∧mu m 9223372036854775807 then some (.eu vn 0 sz 0 m.toNat,.new (.row t 0 (List.replicate m.toNat z).flatten))else none
 | _,_=>none
def xH(sz:Nat)(z:List D)(x:D)(H:et):R:=
 match x with
 | .U=>some (.any,.no)
 | .eu v g fm off len=>match rowAt H v g with
  | some (t,cs)=>if fm=sz∧(off+len)*sz≤cs.length then some (.any,.obj v (.row t g (cs.take (off*sz)++(List.replicate len z).flatten++cs.drop ((off+len)*sz))))else none
  | none=>none
 | _=>none
def HL(x:D)(H:et):R:=
 match x with
 | .ptr v 0 0=>match H[v]? with
  | some (.nR s p)=>if p<s.size then some (.tup [.b true,.i p,.val (.int .i32 (Utf8.decode s p).1)],.obj v (.nR s (p+(Utf8.decode s p).2)))else some (.tup [.b false],.no)
  | _=>none
 | _=>none
def HY(x:D)(H:et)(vn:Nat):R:=
 match x with
 | .fC m=>match kj H m with
  | some (_,es)=>some (.ptr vn 0 0,.new (.jK (.fC m) es.length []))
  | none=>none
 | _=>none
def FD(x:D)(H:et):Option D:=
 match x with
 | .ptr v 0 0=>match H[v]? with
  | some (.jK (.fC m) since seen)=>match kj H m,seen.getLast? with
   | some (_,es),some i=>match es[i]? with
    | some (k,d)=>if es.length=since then some (.tup [.val k,d])else none
    | none=>none
   | _,_=>none
  | _=>none
 | _=>none
def jZ(env:fg)(H:et)(n:Nat):fY→R
 | .nilS neg x=>lift (D4 neg (ev env x))
 | .capE x=>match ev env x with
  | .U=>some (.i 0,.no)
  | _=>none
 | .appZ t sz bytes z x m=>Cn t sz bytes z (ev env x) (ev env m) n
 | .clr sz z x=>xH sz z (ev env x) H
 | .rangeS x=>match ev env x with
  | .val (.string s)=>some (.ptr n 0 0,.new (.nR s 0))
  | _=>none
 | .nextS x=>HL (ev env x) H
 | .rangeM x=>HY (ev env x) H n
 | .entry x=>lift (FD (ev env x) H)
 | _=>none
def EL:fY→Bool
 | .nilS .. | .capE .. | .appZ .. | .clr .. | .rangeS .. | .nextS .. | .rangeM .. | .nextM .. | .entry .. => true
 | _=>false
theorem aaf{op:fY}(h:EL op=true)(f:fg)(H:et)(n:Nat):eZ f H n op=none:=by
 cases op<;>first|(cases h;done)|rfl
theorem aag{op:fY}(h:EL op=true)(f:fg):iw f op=none:=by
 cases op<;>first|(cases h;done)|rfl
theorem Fu{P:Program}{G:GT}{o:Oper}{io:fY}(h:nG P G o=some io):EL io=true:=by
 unfold nG at h
 repeat' split at h
 all_goals first|(cases h;done)|(simp only[ai]at h;obtain⟨_,_,rfl⟩:=h;rfl)|(cases h;rfl)
section
variable{P:Program}{G:GT}{c:Ctx}{H:et}{w:World}{env:fg}{a:Act}
abbrev KO(H:et)(al:Al)(d:D)(δ:Dl):gQ:=fun d' H'=>d'=d∧H'=δ.app H al
theorem D2(h:eP G c H w){al:Al}(fu:j' H al)(o:Obj)(ob:Ob)(hg:ob.gen=0)(ha:ob.alive=true)
  (fF:(∀ u d,ew c w u d→ew (c.set al.1 0 ⟨w.heap.size,0,0,false⟩) (w.alloc o) u d)→(w.alloc o).heap[w.heap.size]? = some o→fr (c.set al.1 0 ⟨w.heap.size,0,0,false⟩) (w.alloc o) (some ⟨w.heap.size,0,0,false⟩) ob) :
  eP G (c.set al.1 0 ⟨w.heap.size,0,0,false⟩) (al.2 ob) (w.alloc o)∧ew (c.set al.1 0 ⟨w.heap.size,0,0,false⟩) (w.alloc o) (.pointer (some ⟨w.heap.size,0,none⟩)) (.ptr al.1 0 0) ∧
   Step H.length c H w (c.set al.1 0 ⟨w.heap.size,0,0,false⟩) (al.2 ob) (w.alloc o):=by
 have hL:(⟨w.heap.size,0,0,false⟩:Loc).gP=false→w.heap.size≤(⟨w.heap.size,0,0,false⟩:Loc).b∧(⟨w.heap.size,0,0,false⟩:Loc).b<(w.alloc o).heap.size:=fun _=>⟨Nat.le_refl _,by simp⟩
 have ht:=(fu ob).pc
 have hs:=ET h ht (ig.alloc w o) ⟨w.heap.size,0,0,false⟩ hL
 rw[hg]at hs
 have h1:=Iz h ht (ig.alloc w o) ⟨w.heap.size,0,0,false⟩ hL ha (by rw[hg];exact fF (fun u d hd=>hd.mA h.toHeapOK hs) (heap_alloc_new w o))
 rw[hg]at h1
 exact⟨h1,.ptr (c:=c.set al.1 0 ⟨w.heap.size,0,0,false⟩) al.1 0 0 ⟨w.heap.size,0,0,false⟩ (Ctx.oK _ _ _ _) rfl,hs⟩
theorem M9(h:eP G c H w){t:TypeId}(ht:wM P t=true){neg:Bool}{x d:D}{u:Value}(hr:ew c w u x)(ho:D4 neg x=some d)(xo yo:Operand) :
  ∃ r,(do eqGuard (if neg then .neq else .eql) t xo yo u (.slice none 0 0);binOp (if neg then .neq else .eql) t u (.slice none 0 0)).run P w = .ok r w∧ew c w r d:=by
 have G4:∃ e,P.underlying t=some (.slice e):=by
  unfold wM at ht
  split at ht
  ·exact⟨_,by assumption⟩
  ·cases ht
 obtain⟨e,hu⟩:=G4
 have heq:∀ (n:Nat) (ad:Option Addr) (len cap:Nat),(Op.equalIn (n+1) t (.slice ad len cap) (.slice none 0 0)).run P w = .ok ad.isNone w:=by
  intro n ad len cap
  cases ad<;>simp[Op.equalIn,run_underlying hu]
 have fL:∀ ad len cap,Op.equal t (.slice ad len cap) (.slice none 0 0)=Op.equalIn (9999+1) t (.slice ad len cap) (.slice none 0 0):=fun _ _ _=>rfl
 have key:∀ (ad:Option Addr) (len cap:Nat),u = .slice ad len cap→(do eqGuard (if neg then .neq else .eql) t xo yo u (.slice none 0 0);binOp (if neg then .neq else .eql) t u (.slice none 0 0)).run P w = .ok (.bool (if neg then !ad.isNone else ad.isNone)) w:=by
  rintro ad len cap rfl
  have h1:=heq 9999 ad len cap
  cases neg<;>simp only[eqGuard,binOp,fL,bw,if_false,if_true,Sem.run_bind,Bool.not_true,Sem.run_pure,Result.andThen_ok,h1]
 unfold D4 at ho
 split at ho
 ·cases ho
  cases hr
  exact⟨_,key none 0 0 rfl,by cases neg<;>exact .val _⟩
 ·cases ho
  cases hr with
  | sl ad len cap sz es g hlen ik iJ fO lS hc GV=>
   have:ad≠none:=fun e=>by have:=lS e;simp at hlen;omega
   obtain⟨q,rfl⟩:=Option.ne_none_iff_exists'.1 this
   exact⟨_,key _ _ _ rfl,by cases neg<;>exact .val _⟩
 ·cases ho
  cases hr with
  | eu _ _ _ _ _ cap L eD hv ik iJ jV=>exact⟨_,key _ _ _ rfl,by cases neg<;>exact .val _⟩
 ·cases ho
theorem Yl(h:eP G c H w){v g o:Nat}{t':TypeId}{cs xs:List D}(hv:H[v]? = some (.row t' g cs)){L:Loc}(eD:c.ι v g=some L)(fM:L.gP=false){vs:List Value}(hx:Cells c w vs xs)
  (jS:o+xs.length≤cs.length):∃ w',(storeCells ⟨L.b,L.base+o,none⟩ vs).run P w = .ok () w'∧eP G c (H.set v (.row t' g (cs.take o++xs++cs.drop (o+xs.length)))) w'∧Step H.length c H w c (H.set v (.row t' g (cs.take o++xs++cs.drop (o+xs.length)))) w':=by
 obtain⟨arr,h1,h2,h3,h4⟩:=tb h hv eD fM
 have qv:vs.length=xs.length:=hx.len
 have eJ:=run_storeCells_at P L.b (L.base+o) t' vs 0 arr w h1 (by simp;omega) hx.one
 simp only[cc]at eJ
 have hw:=z6 h hv eD fM h1 (arr.toList.take (L.base+o)++vs++arr.toList.drop (L.base+o+vs.length)).toArray
  (by simp;omega) h2 (cs.take o++xs++cs.drop (o+xs.length)) (by simp;omega) (fun i d hd=>by
   have DF:=h4.nz hx o
   obtain⟨y,hy,h5,h6⟩:=DF.get hd
   refine⟨y,?_,h5,h6⟩
   rw[← hy]
   simp only[cB]
   have iP:(List.take (L.base+o) arr.toList).length=L.base+o:=by simp;omega
   have il:(List.take o (List.take cs.length (List.drop L.base arr.toList))).length=o:=by simp;omega
   by_cases c1:i<o
   ·rw[ag (by simp;omega),ag (by rw[iP];omega),ag (by simp;omega),ag (by rw[il];omega)]
    simp only[ay,aC]
    rw[if_pos (by omega),if_pos c1,if_pos (by omega)]
   ·by_cases c2:i<o+xs.length
    ·rw[ag (by simp;omega),aj (by rw[iP];omega),ag (by simp;omega),aj (by rw[il];omega),iP,il]
     congr 1
     omega
    ·have lB:i<cs.length:=by have:=(af.1 hd).1;simp at this;omega
     rw[aj (by simp;omega),aj (by simp;omega)]
     simp only[aC,ay,az,iP,il,qv]
     rw[if_pos (by omega)]
     congr 1
     omega)
 exact⟨_,eJ,hw.1,hw.2⟩
theorem Ym(h:eP G c H w){al:Al}{t e ty:TypeId}{i:TypeInfo}{z:List D}(hu:P.underlying t=some (.slice e))(hi:P.info? e=some i)(hz:mC P e=some z)(pG:z.length=i.size)(iy:0<i.size)
  {x d:D} {δ:Dl} {u:Value} (hr:ew c w u x) (ho:xH i.size z x H=some (d,δ)):∃ w',(Builtin.clear_ #[t] ty #[u]).run P w = .ok (.tuple #[]) w'∧gF G c H w (KO H al d δ) (.tuple #[]) w':=by
 unfold xH at ho
 split at ho
 ·cases ho
  cases hr
  exact⟨w,by simp[Builtin.clear_,run_underlying hu],_,_,c,⟨rfl,rfl⟩,h,.any _,Step.refl _ _ _ _⟩
 ·rename_i v g fm off len
  split at ho
  ·rename_i t' cs fy
   split at ho
   ·rename_i gJ
    obtain⟨rfl,jS⟩:=gJ
    cases ho
    have hv:=pa fy
    dsimp only at hv
    obtain⟨zv,rC,DK,oo⟩:=tf hz w
    have qw:zv.cells.size=i.size:=by have:=(oo c w).len;simp at this;omega
    have Dh:(Dl.obj v (.row t' g (cs.take (off*i.size)++(List.replicate len z).flatten++cs.drop ((off+len)*i.size)))).app H al=H.set v (.row t' g (cs.take (off*i.size)++(List.replicate len z).flatten++cs.drop ((off+len)*i.size))):=rfl
    have oh:(List.replicate len z).flatten.length=len*i.size:=by simp[pG]
    have DC:(.row t' g (cs.take (off*i.size)++(List.replicate 0 z).flatten++cs.drop ((off+0)*i.size)))=Ob.row t' g cs:=by simp
    have pD:H.set v (.row t' g cs)=H:=by
     have fe:=(af.1 hv).1
     have gK:=(af.1 hv).2
     rw[← gK];exact List.set_getElem_self fe
    cases hr with
    | eu _ _ _ _ _ cap L eD fM ik iJ jV=>
     by_cases hn:len=0
     ·subst hn
      refine⟨w,by simp[Builtin.clear_,run_underlying hu],_,_,c,⟨rfl,rfl⟩,?_,.any _,?_⟩
      ·rw[Dh,DC,pD];exact h
      ·rw[Dh,DC,pD];exact Step.refl _ _ _ _
     ·have mj:Cells c w (Builtin.zeroCells zv.cells len).toList (List.replicate len z).flatten:=by
       have h1:(Builtin.zeroCells zv.cells len).toList=(List.replicate len zv.cells.toList).flatten:=by
        unfold Builtin.zeroCells
        exact Eg zv.cells len (by omega)
       rw[h1]
       exact C6 _ _ oo len
      obtain⟨w',k1,k2,k3⟩:=Yl (P:=P) (o:=off*i.size) h hv eD fM mj (by rw[oh,← aV];exact jS)
      rw[oh,← aV]at k2 k3
      refine⟨w',?_,_,_,c,⟨rfl,rfl⟩,k2,.any _,k3⟩
      obtain⟨agu,rfl⟩:=Nat.exists_eq_succ_of_ne_zero hn
      simp[Builtin.clear_,run_underlying hu,rC,k1]
    | kl _ _ _ _ L eD ad=>
     refine⟨w,by cases ad<;>simp[Builtin.clear_,run_underlying hu],_,_,c,⟨rfl,rfl⟩,?_,.any _,?_⟩
     ·rw[Dh,DC,pD];exact h
     ·rw[Dh,DC,pD];exact Step.refl _ _ _ _
   ·cases ho
  ·cases ho
 ·cases ho
theorem Yd(h:eP G c H w){al:Al}(fu:j' H al){t u ty e:TypeId}{i:TypeInfo}{z:List D}(ht:P.underlying t=some (.slice e))(hu:P.underlying u=some (.int .i64))(hi:P.info? e=some i)(hz:mC P e=some z)(pG:z.length=i.size)(iy:0<i.size)
  {x y d:D} {δ:Dl} {ux uy:Value} (h1:ew c w ux x) (h2:ew c w uy y) (ho:Cn e i.size i.bytes z x y al.1=some (d,δ)) :
  ∃ r w',(Builtin.append_ #[t,u] ty #[ux,uy]).run P w = .ok r w'∧gF G c H w (KO H al d δ) r w':=by
 unfold Cn at ho
 split at ho
 ·rename_i m
  split at ho
  ·rename_i gJ
   cases ho
   cases h1
   cases h2
   obtain⟨zv,rC,DK,oo⟩:=tf hz w
   have yG:i.zero=some zv:=by simpa[hi]using DK
   have qw:zv.cells.size=i.size:=by have:=(oo c w).len;simp at this;omega
   obtain⟨n,rfl⟩:∃ n:Nat,m=n:=⟨m.toNat,by omega⟩
   obtain⟨RU,l7,vK⟩:=gJ
   simp only[mu]at l7 vK
   have Lt:0<n:=by omega
   have Q9:n*i.bytes≤140737488355328:=by
    have h1:((n*i.bytes:Nat):Int)≤140737488355328:=by rw[Int.natCast_mul];exact l7
    omega
   have KZ:n≤9223372036854775807:=by omega
   have rl:=grownCap_ge w n 0 e
   have lQ:=grownCap_le_maxLen w n 0 e (by unfold maxLen;omega)
   have wn:IntKind.i64.wrap (n:Int)=n:=wrap_i64 (by unfold kL;omega)
   have gi:(Builtin.append_ #[t,u] ty #[.slice none 0 0,.int .i64 n]).run P w = .ok (.slice (some ⟨w.heap.size,0,none⟩) n (grownCap w n 0 e))
     (w.drew.alloc (.cells (Builtin.zeroCells zv.cells n++Builtin.zeroCells zv.cells (grownCap w n 0 e-n)) e)):=by
    have R3:¬ (n=0):=by omega
    have Q4:∀ w:World,(asInt (.int .i64 (n:Int))).run P w = .ok (n:Int) w:=fun w=>by simp[asInt,asIntOf]
    have hle:¬ ((n:Int)≤0):=by omega
    have kA:max (n:Int) 0=n:=by omega
    have hnt:(n:Int).toNat=n:=by omega
    have fO:¬ (i.size=0):=by omega
    have RY:¬ ((n:Int)<0):=by omega
    have QM:¬ (281474976710656<(n:Int)*(i.bytes:Int)):=by have:(n:Int)*(i.bytes:Int)≤140737488355328:=l7;omega
    have F6:¬ (281474976710656<Builtin.nextslicecap n 0*i.bytes):=by have:=growslice_fits (old:=0) Lt Q9;omega
    have QO:¬ (9223372036854775807<(n:Int)):=by omega
    simp[Builtin.append_,run_underlying ht,run_underlying hu,sizeOf,typeInfo,zeroValue,hi,yG,Q4,wn,RY,QM,R3,fO,F6,QO,hle,kA,Question.forced,newRow,grownCap,run_firstCells_none]
    intro h0
    exact absurd h0 (Nat.ne_of_gt (Nat.mul_pos Lt iy))
   refine⟨_,_,gi,?_⟩
   have mj:Cells c w (Builtin.zeroCells zv.cells n).toList (List.replicate n z).flatten:=by
    have h1:(Builtin.zeroCells zv.cells n).toList=(List.replicate n zv.cells.toList).flatten:=by
     unfold Builtin.zeroCells
     exact Eg zv.cells n (by omega)
    rw[h1]
    exact C6 _ _ oo n
   have fO:(Builtin.zeroCells zv.cells n++Builtin.zeroCells zv.cells (grownCap w n 0 e-n)).size=grownCap w n 0 e*i.size:=by
    simp only[cj,size_zeroCells,qw,← aV]
    congr 1;omega
   obtain⟨L,e1,e2,e3,e4,e5,e6⟩:=y8 h w.drew (ig.drew w) e _ (List.replicate n z).flatten (Builtin.zeroCells zv.cells n).size (Builtin.zeroCells zv.cells n++Builtin.zeroCells zv.cells (grownCap w n 0 e-n)) (fu _).pc mj (by
    simp only[cI]
    exact List.take_left' (by simp)) (by simp only[cj];omega)
   have hp:=Ec (c:=c) (w:=w.drew.alloc (.cells (Builtin.zeroCells zv.cells n++Builtin.zeroCells zv.cells (grownCap w n 0 e-n)) e)) e1 e3 al.1 0 i.size n (grownCap w n 0 e) (by rw[e4,fO]) rl lQ
   rw[e2]at hp
   exact⟨_,_,_,⟨rfl,rfl⟩,e5,hp,e6⟩
  ·cases ho
 ·cases ho
theorem YJ(h:eP G c H w){al:Al}{x d:D}{δ:Dl}{u:Value}{ty:TypeId}(hr:ew c w u x)(ho:HL x H=some (d,δ)):∃ r w',(Instr.next u true ty).run P w = .ok r w'∧gF G c H w (KO H al d δ) r w':=by
 unfold HL at ho
 split at ho
 ·rename_i v
  split at ho
  ·rename_i s p hv
   cases hr with
   | ptr _ _ _ L eD fM=>
    have fF:=h.ob v _ hv
    simp only[Ob.gen]at fF
    rw[eD]at fF
    simp only[fr]at fF
    obtain⟨_,sJ,hblk⟩:=fF
    have fe:=(aI.1 hblk).1
    rw[sJ]
    by_cases hp:p<s.size
    ·rw[if_pos hp]at ho
     cases ho
     obtain⟨m1,m2⟩:=z1 h hv rfl rfl (ob':=.nR s (p+(Utf8.decode s p).2)) rfl eD fM (.stringIter s (p+(Utf8.decode s p).2)) (fun w' pF _=>by
      simp only[fr];exact⟨fM,sJ,pF⟩)
     refine⟨.tuple #[.bool true,goInt p,.int .i32 (Utf8.decode s p).1],_,?_,_,_,c,⟨rfl,rfl⟩,m1,?_,m2⟩
     ·simp[Instr.next,getObj,setObj,Sem.run,hblk,hp]
     ·refine .tup [.bool true,goInt p,.int .i32 (Utf8.decode s p).1] _ rfl fun i v d hv hd=>?_
      match i,hv,hd with
      | 0,hv,hd=>cases hv;cases hd;exact .val _
      | 1,hv,hd=>cases hv;cases hd;exact .val _
      | 2,hv,hd=>cases hv;cases hd;exact .val _
    ·rw[if_neg hp]at ho
     cases ho
     refine⟨.tuple #[.bool false],w,?_,_,_,c,⟨rfl,rfl⟩,h,?_,Step.refl _ _ _ _⟩
     ·simp[Instr.next,getObj,Sem.run,hblk,hp]
     ·refine .tup [.bool false] _ rfl fun i v d hv hd=>?_
      match i,hv,hd with
      | 0,hv,hd=>cases hv;cases hd;exact .val _
  ·cases ho
 ·cases ho
theorem Ys(h:eP G c H w){x d:D}{u:Value}(hr:ew c w u x)(ho:FD x H=some d):∃ r,(Instr.entry u).run P w = .ok r w∧ew c w r d:=by
 unfold FD at ho
 split at ho
 ·rename_i v
  split at ho
  ·rename_i m since seen hv
   split at ho
   ·rename_i kk es i hm uo
    split at ho
    ·rename_i k d0 K9
     split at ho
     ·rename_i hlen
      cases ho
      have rr:=sZ hm
      dsimp only at rr
      cases hr with
      | ptr _ _ _ L eD fM=>
       have fF:=h.ob v _ hv
       simp only[Ob.gen]at fF
       rw[eD]at fF
       simp only[fr]at fF
       obtain⟨_,sJ,bm,we,hblk⟩:=fF
       cases we with
       | fC _ Lm uC DG=>
        have nM:=h.ob m _ rr
        simp only[Ob.gen]at nM
        rw[uC]at nM
        simp only[fr]at nM
        obtain⟨_,_,arr,clock,yp,fO,jl,ya⟩:=nM
        have hi:i<arr.size:=by rw[fO];exact(af.1 K9).1
        have Q0:arr[i]? = some arr[i]:=by simp[hi]
        obtain⟨q1,q2,q3⟩:=jl i _ _ Q0 K9
        have Q5:seen.toArray.back? = some i:=by simpa[Array.back?_eq_getElem?,List.getLast?_eq_getElem?]using uo
        have Rs:arr.find? (fun e=>e.born == i)=some arr[i]:=by
         rw[Array.find?_eq_some_iff_getElem]
         refine⟨by simp[q3],i,hi,rfl,fun j hj=>?_⟩
         have l9:j<es.length:=by rw[← fO];omega
         have:=(jl j arr[j] es[j] (by simp) (by simp[l9])).2.2
         simp[this]
         try omega
        refine⟨.tuple #[k,arr[i].val],?_,?_⟩
        ·rw[sJ]
         have hc:clock=since:=by rw[ya,hlen]
         subst hc
         simp only[aX]
         simp only[Instr.entry,getObj,Sem.run_bind,Sem.run,hblk,Result.andThen_ok,Q5,yp,Rs]
         simp[q1]
        ·refine .tup [k,arr[i].val] _ rfl fun j v d hv hd=>?_
         match j,hv,hd with
         | 0,hv,hd=>cases hv;cases hd;exact .val _
         | 1,hv,hd=>cases hv;cases hd;exact q2
     ·cases ho
    ·cases ho
   ·cases ho
  ·cases ho
 ·cases ho
theorem YM(h:eP G c H w){al:Al}(fu:j' H al){t:TypeId}{k e:TypeId}(hu:P.underlying t=some (.map k e)){x d:D}{δ:Dl}{u:Value}(hr:ew c w u x)(ho:HY x H al.1=some (d,δ)) :
  ∃ r w',(Instr.range t u).run P w = .ok r w'∧gF G c H w (KO H al d δ) r w':=by
 unfold HY at ho
 split at ho
 ·rename_i m
  split at ho
  ·rename_i kk es hm
   cases ho
   have rr:=sZ hm
   dsimp only at rr
   cases hr with
   | fC _ Lm uC DG=>
    have nM:=h.ob m _ rr
    simp only[Ob.gen]at nM
    rw[uC]at nM
    simp only[fr]at nM
    obtain⟨_,_,arr,clock,yp,fO,jl,ya⟩:=nM
    obtain⟨k1,k2,k3⟩:=D2 h fu (.mapIter (some Lm.b) clock #[] clock) (.jK (.fC m) es.length []) rfl rfl (fun pC hb=>by
     simp only[fr]
     refine⟨trivial,trivial,Lm.b,pC _ _ (.fC m Lm uC DG),?_⟩
     rw[← ya];exact hb)
    exact⟨_,_,run_range_map w t k e Lm.b arr clock hu yp,_,_,_,⟨rfl,rfl⟩,k1,k2,k3⟩
  ·cases ho
 ·cases ho
theorem Z2(h:eP G c H w)(he:iS c w env a){al:Al}(fu:j' H al){o:Oper}{io:fY}(hc:nG P G o=some io){d:D}{δ:Dl}(hk:jZ env H al.1 io=some (d,δ)) :
  ∃ v w',vo ((execOp a.eval o).run P w) v w'∧gF G c H w (KO H al d δ) v w':=by
 have plain:∀ {v:Value} {d:D},ew c w v d→gF G c H w (KO H al d .no) v w:=fun hr=>⟨_,_,c,⟨rfl,rfl⟩,h,hr,Step.refl _ _ _ _⟩
 unfold nG at hc
 split at hc
 ·rename_i t x y ty ho
  split at hc
  ·rename_i gJ
   simp only[ai]at hc
   obtain⟨X,hX,rfl⟩:=hc
   have hy:y = .const (.slice none 0 0):=by
    have:=gJ.2
    unfold CJ at this
    split at this
    ·rfl
    ·cases this
   subst hy
   obtain⟨ma,rfl⟩:=jJ hk
   obtain⟨r,h1,h2⟩:=M9 h gJ.1 (gb h he hX) ma x (.const (.slice none 0 0))
   exact⟨r,w,by simp only[execOp,ho];exact gX h1,plain h2⟩
  ·cases hc
 ·rename_i t x y ty ho
  split at hc
  ·rename_i gJ
   simp only[ai]at hc
   obtain⟨X,hX,rfl⟩:=hc
   have hy:y = .const (.slice none 0 0):=by
    have:=gJ.2
    unfold CJ at this
    split at this
    ·rfl
    ·cases this
   subst hy
   obtain⟨ma,rfl⟩:=jJ hk
   obtain⟨r,h1,h2⟩:=M9 h gJ.1 (gb h he hX) ma x (.const (.slice none 0 0))
   exact⟨r,w,by simp only[execOp,ho];exact gX h1,plain h2⟩
  ·cases hc
 ·rename_i t x ho
  split at hc
  ·rename_i X hu hX
   cases hc
   simp only[jZ]at hk
   split at hk
   ·rename_i s hs
    cases hk
    have hr:=gb h he hX
    rw[hs]at hr
    generalize G':a.eval x=u at hr
    cases hr
    obtain⟨k1,k2,k3⟩:=D2 h fu (.stringIter s 0) (.nR s 0) rfl rfl (fun _ hb=>by simp only[fr];exact⟨trivial,trivial,hb⟩)
    refine⟨_,_,by simp only[execOp,ho,G'];exact gX (v:=.pointer (some ⟨w.heap.size,0,none⟩)) (w':=w.alloc (.stringIter s 0)) (by simp[Instr.range,run_underlying hu]),_,_,_,⟨rfl,rfl⟩,k1,k2,k3⟩
   ·cases hk
  ·rename_i k e X hu hX
   cases hc
   obtain⟨r,w',h1,h2⟩:=YM (P:=P) h fu hu (gb h he hX) hk
   exact⟨r,w',by simp only[execOp,ho];exact gX h1,h2⟩
  ·cases hc
 ·rename_i x ho
  simp only[ai]at hc
  obtain⟨X,hX,rfl⟩:=hc
  obtain⟨r,w',h1,h2⟩:=YJ (P:=P) (ty:=o.type) h (gb h he hX) hk
  exact⟨r,w',by simp only[execOp,ho];exact gX h1,h2⟩
 ·simp only[ai]at hc
  obtain⟨X,hX,rfl⟩:=hc
  cases hk
 ·rename_i x ho
  simp only[ai]at hc
  obtain⟨X,hX,rfl⟩:=hc
  obtain⟨ma,rfl⟩:=jJ hk
  obtain⟨r,h1,h2⟩:=Ys (P:=P) h (gb h he hX) ma
  exact⟨r,w,by simp only[execOp,ho];exact gX h1,plain h2⟩
 ·rename_i cl ho
  split at hc
  ·rename_i t x gU ky n9
   split at hc
   ·rename_i eJ
    simp only[ai]at hc
    obtain⟨X,hX,rfl⟩:=hc
    have oa:cl.argTypes = #[t]:=by rw[← bx (xs:=cl.argTypes),ky]
    have x7:cl.args = #[x]:=by rw[← bx (xs:=cl.args),n9]
    have hr:=gb h he hX
    simp only[jZ]at hk
    split at hk
    ·rename_i ml
     cases hk
     rw[ml]at hr
     generalize G':a.eval x=u at hr
     cases hr
     have G4:∃ e,P.underlying t=some (.slice e):=by
      unfold wM at eJ
      split at eJ
      ·exact⟨_,by assumption⟩
      ·cases eJ
     obtain⟨e,hu⟩:=G4
     refine⟨.int .i64 0,w,by rw[qH ho gU,oa,x7];exact gX (by simp[G',Builtin.cap_,run_underlying hu,goInt]),plain (.val _)⟩
    ·cases hk
   ·cases hc
  ·rename_i t x gU ky n9
   have oa:cl.argTypes = #[t]:=by rw[← bx (xs:=cl.argTypes),ky]
   have x7:cl.args = #[x]:=by rw[← bx (xs:=cl.args),n9]
   split at hc
   ·rename_i e hu
    split at hc
    ·rename_i z i X hz hi hX
     split at hc
     ·rename_i gJ
      cases hc
      obtain⟨w',h1,h2⟩:=Ym (P:=P) (al:=al) (ty:=o.type) h hu hi hz gJ.1 gJ.2 (gb h he hX) hk
      exact⟨_,w',by rw[qH ho gU,oa,x7];exact gX (by simpa using h1),h2⟩
     ·cases hc
    ·cases hc
   ·cases hc
  ·rename_i t u x y gU ky n9
   have oa:cl.argTypes = #[t,u]:=by rw[← bx (xs:=cl.argTypes),ky]
   have x7:cl.args = #[x,y]:=by rw[← bx (xs:=cl.args),n9]
   split at hc
   ·rename_i e hu Su
    split at hc
    ·rename_i z i X Y hz hi hX hY
     split at hc
     ·rename_i gJ
      cases hc
      obtain⟨r,w',h1,h2⟩:=Yd (P:=P) (ty:=o.type) h fu hu Su hi hz gJ.1 gJ.2 (gb h he hX) (gb h he hY) hk
      exact⟨r,w',by rw[qH ho gU,oa,x7];exact gX (by simpa using h1),h2⟩
     ·cases hc
    ·cases hc
   ·cases hc
  ·cases hc
 ·cases hc
end
end Go.AL
namespace Go.AL
open Go
abbrev FW(ro:Option Nat):Fence:={ Fence.wide with round:=ro }
theorem xE{ro:Option Nat}{n:Nat}{P:Program}{f:FuncId}{args:Array Value}{w:World}{R:Ending→World→Prop}:CallsIn (FW ro) n P f args w R↔Calls P f args w R:=
 callsIn_wide (n:=n)
inductive ka(c:Ctx):List Nat→List Deferred→Prop
 | nil:ka c [] []
 | cons {v:Nat} {vs:List Nat} {ds:List Deferred} (L:Loc) (h1:c.ι v 0=some L) (h2:L.gP=false) (h:ka c vs ds):ka c (v::vs) ({ target:=.collected L.b,args:=#[] }::ds)
theorem ka.mono{c c':Ctx}(eD:∀ v L,c.ι v 0=some L→c'.ι v 0=some L){vs:List Nat}{ds:List Deferred}(h:ka c vs ds):ka c' vs ds:=by
 induction h with
 | nil=>exact .nil
 | cons L h1 h2 _ ih=>exact .cons L (eD _ _ h1) h2 ih
structure iT(G:GT)(N:Nat)(c:Ctx)(w:World)(s:St)(a:Act):Prop where
 eB:eP G c s.H w
 env:iS c w s.env.get a
 size:N≤a.tmps.size
 marks:ka c s.marks a.defers
def nY(N:Nat):Option Tmp→Bool
 | some d=>decide (d<N)
 | none=>true
def Ft(P:Program)(G:GT)(o:Oper):Option fY:=match ko P G o with
 | some op=>some op
 | none=>nG P G o
def qc(P:Program)(G:GT)(N:Nat)(ops:Array Oper)(o:Oper):Option eX:=
 match Ft P G o with
 | none=>none
 | some op=>if nY N o.dst=true then(match o.guard with
   | none=>some ⟨o.dst,op,none⟩
   | some (j,want)=>match (ops[j]?).bind (·.dst)with
    | some t=>some ⟨o.dst,op,some (t,want)⟩
    | none=>none)else none
def lM(P:Program)(G:GT)(N:Nat)(ops:Array Oper):List Oper→Option (List eX)
 | []=>some []
 | o::r=>match qc P G N ops o,lM P G N ops r with
  | some e,some l=>some (e::l)
  | _,_=>none
section
variable{P:Program}{G:GT}{c:Ctx}{w:World}{env:fg}{a:Act}{N:Nat}
theorem Y8{env:Env}{a:Act}{c:Ctx}{w:World}(he:iS c w env.get a)(hN:N≤a.tmps.size){dst:Option Tmp}(hd:nY N dst=true){v:Value}{d:D}(hr:ew c w v d) :
  iS c w (put env dst d).get (a.put dst v):=by
 cases dst with
 | none=>exact he
 | some t=>
  have ht:t<a.tmps.size:=aH (by simpa[nY]using hd) hN
  intro k
  simp only[put,Env.qj,Act.put]
  split
  ·rename_i e
   subst e
   have:(a.tmps.setIfInBounds t v).getD t undef=v:=by simp[Array.getD,ht]
   rw[this];exact hr
  ·rename_i e
   have:(a.tmps.setIfInBounds t v).getD k undef=a.tmps.getD k undef:=by
    simp only[bE,bt e]
   rw[this];exact he k
theorem Np{a:Act}{dst:Option Tmp}{v:Value}:(a.put dst v).tmps.size=a.tmps.size:=by
 cases dst<;>simp[Act.put]
theorem put_defers{a:Act}{dst:Option Tmp}{v:Value}:(a.put dst v).defers=a.defers:=by
 cases dst<;>rfl
theorem iS.carry{c c':Ctx}{w w':World}(h:∀ v d,ew c w v d→ew c' w' v d)(he:iS c w env a):iS c' w' env a:=fun k=>h _ _ (he k)
theorem iT.next{c':Ctx}{w':World}{H':et}{s:St}(hs:iT G N c w s a)(eB:eP G c' H' w')(eJ:Step s.H.length c s.H w c' H' w'){dst:Option Tmp}(hd:nY N dst=true)
  {v:Value} {d:D} (hr:ew c' w' v d):iT G N c' w' { s with env:=put s.env dst d,H:=H' } (a.put dst v) where
 eB:=eB
 env:=Y8 (hs.env.carry fun _ _ h=>h.mA hs.eB.toHeapOK eJ) hs.size hd hr
 size:=by rw[Np];exact hs.size
 marks:=by
  rw[put_defers]
  refine hs.marks.mono fun v L h=>eJ.old v 0 L ?_ h
  rcases aW v s.H.length with h'|h'
  ·exact h'
  ·rw[hs.eB.out v 0 h']at h;cases h
theorem pd(he:iS c w env a){ops:Array Oper}{o:Oper}{g:Option (Nat×Bool)}(hg:match o.guard with
   | none=>g=none
   | some (j,want)=>∃ t,(ops[j]?).bind (·.dst)=some t∧g=some (t,want)) {b:Bool} (h:guardOf env g=some b):Region.wanted o (yielded ops a.tmps)=b:=by
 unfold Region.wanted
 split at hg
 ·rename_i vS
  subst hg
  simp only[guardOf,aq]at h
  simp[vS,h]
 ·rename_i j want vS
  obtain⟨t,ht,rfl⟩:=hg
  simp only[guardOf]at h
  split at h
  ·rename_i x hx
   cases h
   have hr:=he t
   rw[hx]at hr
   generalize hv:a.tmps.getD t undef=v at hr
   cases hr
   have gK:a.tmps[t]? = some (.bool x):=by
    rw[bE]at hv
    cases hq:a.tmps[t]? with
    | none=>rw[hq]at hv;simp[undef]at hv
    | some q=>rw[hq]at hv;simpa using hv
   simp only[vS,yielded,ht,Option.bind_some,gK]
   cases x<;>cases want<;>rfl
  ·rename_i vs hx
   cases h
   have hr:=he t
   rw[hx]at hr
   generalize hv:a.tmps.getD t undef=v at hr
   cases hr
   have gK:a.tmps[t]? = some (.tuple vs)∨a.tmps[t]? = none:=by
    rw[bE]at hv
    cases hq:a.tmps[t]? with
    | none=>exact .inr rfl
    | some q=>rw[hq]at hv;exact .inl (by simpa using hv)
   rcases gK with gK|gK<;>simp only[vS,yielded,ht,Option.bind_some,gK]<;>cases want<;>rfl
  ·cases h
theorem Ka{o:Oper}{op:fY}(h:Ft P G o=some op):ko P G o=some op∨nG P G o=some op:=by
 unfold Ft at h
 split at h
 ·cases h;exact .inl (by assumption)
 ·exact .inr h
theorem J8{o:Oper}{io:fY}(hc:ko P G o=some io∨nG P G o=some io){f:fg}{H:et}{n:Nat}{r:D×Dl}(h:eZ f H n io=some r):ko P G o=some io:=by
 refine hc.resolve_right fun h2=>?_
 rw[aaf (Fu h2)]at h
 cases h
theorem xJ{o:Oper}{io:fY}(hc:ko P G o=some io∨nG P G o=some io){f:fg}{r:FuncId×List D}(h:iw f io=some r):ko P G o=some io:=by
 refine hc.resolve_right fun h2=>?_
 rw[aag (Fu h2)]at h
 cases h
theorem sv{ops:Array Oper}{o:Oper}{e:eX}(h:qc P G N ops o=some e) :
  (ko P G o=some e.op∨nG P G o=some e.op)∧e.dst=o.dst∧(nY N o.dst=true)∧(match o.guard with
   | none=>e.guard=none
   | some (j,want)=>∃ t,(ops[j]?).bind (·.dst)=some t∧e.guard=some (t,want)):=by
 unfold qc at h
 split at h
 ·cases h
 ·rename_i op fL
  split at h
  ·rename_i hd
   split at h
   ·rename_i hg
    cases h
    exact⟨Ka fL,rfl,hd,by simp[hg]⟩
   ·rename_i j want hg
    split at h
    ·rename_i t ht
     cases h
     exact⟨Ka fL,rfl,hd,t,ht,rfl⟩
    ·cases h
  ·cases h
theorem uL{o:Oper}{io:fY}(h:ko P G o=some io):∀ c,o.op≠.defer c:=by
 intro c hc
 simp[ko,hc]at h
theorem MW{o:Oper}{io:fY}(h:nG P G o=some io):∀ c,o.op≠.defer c:=by
 intro c hc
 simp[nG,hc]at h
theorem aay{ro:Option Nat}{n:Nat}{o:Oper}{s:St}{io:fY}{d:D}{δ:Dl}{next:Act→World→Prop}{Q:Exit→Act→World→Prop}(hs:iT G N c w s a)(hc:nG P G o=some io)
  (hd:nY N o.dst=true) {al:Al} (fu:j' s.H al) (h:jZ s.env.get s.H al.1 io=some (d,δ))
  (k:∀ c' w' a',iT G N c' w' { s with env:=put s.env o.dst d,H:=δ.app s.H al } a'→Step s.H.length c s.H w c' (δ.app s.H al) w'→next a' w'):o.wpIn (FW ro) n P a w next Q:=by
 obtain⟨v,w',hy,d',H',c',⟨rfl,rfl⟩,eB,hr,eJ⟩:=Z2 (P:=P) hs.eB hs.env fu hc h
 refine⟨fun _ _=>trivial,?_⟩
 rw[Oper.semAt_plain (FW ro) a.eval o (MW hc)]
 have hn:=k c' w' (a.put o.dst v) (hs.next eB eJ hd hr) eJ
 rcases hy with hy|⟨hy,rfl⟩
 ·rw[hy];exact hn
 ·rw[hy];exact hn
theorem aav{ro:Option Nat}{n:Nat}{o:Oper}{s:St}{x:X}{next:Act→World→Prop}{Q:Exit→Act→World→Prop}(hs:iT G N c w s a)(hc:nG P G o=some (.nextM x))
  (hd:nY N o.dst=true) {v m since:Nat} {seen:List Nat} {kk:KK} {es:List (Value×D)} (hx:ev s.env.get x = .ptr v 0 0) (hv:s.H[v]? = some (.jK (.fC m) since seen)) (hm:s.H[m]? = some (.map kk es)) (np:es.length=since)
  (k0:(∀ i,i<es.length→i∈seen)→∀ c' w' a',iT G N c' w' { s with env:=put s.env o.dst (.tup [.b false]) } a'→Step s.H.length c s.H w c' s.H w'→next a' w')
  (k1:∀ i k d,es[i]? = some (k,d)→i ∉ seen→∀ c' w' a',iT G N c' w' { s with env:=put s.env o.dst (.tup [.b true,.val k,d]),H:=s.H.set v (.jK (.fC m) since (seen ++ [i])) } a' →
   Step s.H.length c s.H w c' (s.H.set v (.jK (.fC m) since (seen ++ [i]))) w'→next a' w'):o.wpIn (FW ro) n P a w next Q:=by
 have fL:∃ y,o.op = .next y false∧cX G y=some x:=by
  unfold nG at hc
  repeat' split at hc
  all_goals first|(cases hc;done)|(simp only[ai]at hc;obtain⟨_,_,hh⟩:=hc;cases hh;done)|skip
  simp only[ai]at hc
  obtain⟨X,hX,hh⟩:=hc
  cases hh
  exact⟨_,by assumption,hX⟩
 obtain⟨y,ho,hX⟩:=fL
 have hr:=gb hs.eB hs.env hX
 rw[hx]at hr
 generalize hu:a.eval y=u at hr
 cases hr with
 | ptr _ _ _ L eD fM=>
  have fF:=hs.eB.ob v _ hv
  simp only[Ob.gen]at fF
  rw[eD]at fF
  simp only[fr]at fF
  obtain⟨_,sJ,bm,we,hblk⟩:=fF
  cases we with
  | fC _ Lm uC DG=>
   have nM:=hs.eB.ob m _ hm
   simp only[Ob.gen]at nM
   rw[uC]at nM
   simp only[fr]at nM
   obtain⟨_,_,arr,clock,yp,fO,jl,ya⟩:=nM
   have mJ:clock=since:=by rw[ya,np]
   subst mJ
   refine⟨fun _ _=>trivial,?_⟩
   rw[Oper.semAt_plain (FW ro) a.eval o (MW hc)]
   have Gi:∀ e∈arr.toList,e.born<clock:=by
    intro e he
    obtain⟨i,hi⟩:=aD.1 he
    have qo:i<es.length:=by rw[← fO];have:=(af.1 hi).1;simpa using this
    have:=(jl i e es[i] (by simpa using hi) (by simp[qo])).2.2
    omega
   have L7:=next_test_false seen.toArray arr clock clock Gi (Nat.le_refl _)
   have hold:(leftOf arr seen.toArray).filter (fun e=>decide (e.born<clock))=leftOf arr seen.toArray:=by
    apply Array.filter_eq_self.2
    intro e he
    simp only[decide_eq_true_eq]
    exact Gi e (by simpa using (de.1 he).1)
   have jT:(leftOf arr seen.toArray).filter (fun e=>decide (e.born≥clock)) = #[]:=by
    apply Array.filter_eq_empty_iff.2
    intro e he
    have:=Gi e (by simpa using (de.1 he).1)
    simp;omega
   have Lg:∀ w1:World,w1.heap=w.heap→(getObj L.b).run P w1 = .ok (.mapIter (some Lm.b) clock seen.toArray clock) w1:=fun w1 h1=>by simp[getObj,Sem.run,h1,hblk]
   have Lh:∀ w1:World,w1.heap=w.heap→(getObj Lm.b).run P w1 = .ok (.map arr clock) w1:=fun w1 h1=>by simp[getObj,Sem.run,h1,yp]
   have lR:∀ e,e∈(leftOf arr seen.toArray).toList→∃ i k d,es[i]? = some (k,d)∧i ∉ seen∧e.key=k∧ew c w e.val d∧e.born=i:=by
    intro e he
    have ua:e∈arr∧(!seen.toArray.contains e.born)=true:=by
     have:=de.1 (show e∈leftOf arr seen.toArray by simpa using he)
     exact this
    obtain⟨i,hi⟩:=aD.1 (show e∈arr.toList by simpa using ua.1)
    have qo:i<es.length:=by rw[← fO];have:=(af.1 hi).1;simpa using this
    obtain⟨q1,q2,q3⟩:=jl i e es[i] (by simpa using hi) (by simp[qo])
    refine⟨i,es[i].1,es[i].2,by simp[qo],?_,q1,q2,q3⟩
    have:=ua.2
    rw[q3]at this
    simpa using this
   by_cases jH:(leftOf arr seen.toArray) = #[]
   ·have gi:(execOp a.eval o).run P w = .ok (.value (.tuple #[.bool false])) w:=by
     have h2:(Instr.next (.pointer (some ⟨L.b,0,none⟩)) false o.type).run P w = .ok (.tuple #[.bool false]) w:=by
      have yj:(arr.filter fun e => !(seen.toArray).contains e.born) = #[]:=jH
      simp only[Instr.next,Sem.run_bind,Lg w rfl,Result.andThen_ok,Lh w rfl,L7,bw,if_false,Sem.run_pure,yj]
      simp[choose,Sem.run,Question.forced]
     simp only[execOp,ho,hu]
     rw[sJ]
     simp[h2]
    rw[gi]
    refine k0 (fun i hi=>?_) c w _ (hs.next hs.eB (Step.refl _ _ _ _) hd (.tup [.bool false] _ rfl fun j v d hv hd=>?_)) (Step.refl _ _ _ _)
    ·by_cases ff:i∈seen
     ·exact ff
     ·exfalso
      have uf:i<arr.size:=by omega
      have Q7:=(jl i arr[i] es[i] (by simp[uf]) (by simp[hi])).2.2
      have:arr[i]∈leftOf arr seen.toArray:=by
       refine de.2 ⟨Array.getElem_mem _,?_⟩
       rw[Q7];simpa using ff
      rw[jH]at this
      simp at this
    ·match j,hv,hd with
     | 0,hv,hd=>cases hv;cases hd;exact .val _
   ·have fJ:(leftOf arr seen.toArray).isEmpty=false:=by
     cases hq:(leftOf arr seen.toArray).isEmpty with
     | false=>rfl
     | true=>exact absurd (Array.isEmpty_iff.1 hq) jH
    have iy:0<(leftOf arr seen.toArray).size:=by
     rcases dv (leftOf arr seen.toArray).size with h|h
     ·exact absurd (Array.eq_empty_of_size_eq_zero h) jH
     ·exact h
    have Gl:∃ (i:Nat) (w1:World),i<(leftOf arr seen.toArray).size∧ig w w1∧w1.heap=w.heap∧(choose (.mapNext (leftOf arr seen.toArray).size)).run P w = .ok i w1:=by
     by_cases hf:(Question.mapNext (leftOf arr seen.toArray).size).forced=true
     ·exact⟨0,w,iy,ig.refl w,rfl,by simp[choose,Sem.run,hf]⟩
     ·exact⟨w.tape w.drawn (.mapNext (leftOf arr seen.toArray).size) % (leftOf arr seen.toArray).size,{ w with drawn:=w.drawn+1 },Nat.mod_lt _ iy,ig.drew w,rfl,by simp[choose,Sem.run,hf,Question.cut]⟩
    obtain⟨i,w1,hi,Li,Ry,Rg⟩:=Gl
    obtain⟨i',k,d,h1,h2,h3,h4,h5⟩:=lR (leftOf arr seen.toArray)[i] (by simp)
    have uv:=hs.eB.l6 Li
    obtain⟨m1,m2⟩:=z1 uv hv rfl rfl (ob':=.jK (.fC m) clock (seen ++ [i'])) rfl eD fM (.mapIter (some Lm.b) clock (seen ++ [i']).toArray clock) (fun w' pF pC=>by
     simp only[fr]
     exact⟨fM,sJ,Lm.b,.fC m Lm uC DG,pF⟩)
    have eJ:Step s.H.length c s.H w c (s.H.set v (.jK (.fC m) clock (seen ++ [i']))) { w1 with heap:=w1.heap.setIfInBounds L.b (.mapIter (some Lm.b) clock (seen ++ [i']).toArray clock) }:=(wP _ Li).trans m2 (Nat.le_refl _)
    have gi:(execOp a.eval o).run P w = .ok (.value (.tuple #[.bool true,k,(leftOf arr seen.toArray)[i].val])) { w1 with heap:=w1.heap.setIfInBounds L.b (.mapIter (some Lm.b) clock (seen ++ [i']).toArray clock) }:=by
     have pD:(setObj L.b (.mapIter (some Lm.b) clock (seen ++ [i']).toArray clock)).run P w1 = .ok () { w1 with heap:=w1.heap.setIfInBounds L.b (.mapIter (some Lm.b) clock (seen ++ [i']).toArray clock) }:=by
      simp[setObj,Sem.run,Ry,hblk]
     have h2:(Instr.next (.pointer (some ⟨L.b,0,none⟩)) false o.type).run P w = .ok (.tuple #[.bool true,k,(leftOf arr seen.toArray)[i].val]) { w1 with heap:=w1.heap.setIfInBounds L.b (.mapIter (some Lm.b) clock (seen ++ [i']).toArray clock) }:=by
      have yj:(arr.filter fun e => !(seen.toArray).contains e.born)=leftOf arr seen.toArray:=rfl
      have gA:((if (leftOf arr seen.toArray).isEmpty then #[none]else #[])++(leftOf arr seen.toArray ++ #[]).map some)=(leftOf arr seen.toArray).map some:=by simp[fJ]
      simp only[Instr.next,Sem.run_bind,Lg w rfl,Result.andThen_ok,Lh w rfl,L7,bw,if_false,Sem.run_pure,yj,hold,jT,gA,Array.size_map,Rg]
      have Rv:((leftOf arr seen.toArray).map some)[i]? = some (some (leftOf arr seen.toArray)[i]):=by simp[hi]
      simp only[Rv,Sem.run_bind]
      rw[h5,show seen.toArray.push i'=(seen ++ [i']).toArray by simp,pD]
      simp[h3]
     simp only[execOp,ho,hu]
     rw[sJ]
     simp[h2]
    rw[gi]
    refine k1 i' k d h1 h2 c _ _ (hs.next m1 eJ hd (.tup [.bool true,k,(leftOf arr seen.toArray)[i].val] _ rfl fun j v d hv hd=>?_)) eJ
    match j,hv,hd with
    | 0,hv,hd=>cases hv;cases hd;exact .val _
    | 1,hv,hd=>cases hv;cases hd;exact .val _
    | 2,hv,hd=>cases hv;cases hd;exact h4.mA hs.eB.toHeapOK eJ
theorem aaw{ro:Option Nat}{n:Nat}{o:Oper}{s:St}{io:fY}{d:D}{δ:Dl}{next:Act→World→Prop}{Q:Exit→Act→World→Prop}(hs:iT G N c w s a)(hc:ko P G o=some io)
  (hd:nY N o.dst=true) {al:Al} (fu:j' s.H al) (h:eZ s.env.get s.H al.1 io=some (d,δ))
  (k:∀ c' w' a',iT G N c' w' { s with env:=put s.env o.dst d,H:=δ.app s.H al } a'→Step s.H.length c s.H w c' (δ.app s.H al) w'→next a' w'):o.wpIn (FW ro) n P a w next Q:=by
 obtain⟨v,w',hy,d',H',c',⟨rfl,rfl⟩,eB,hr,eJ⟩:=Nl (P:=P) (K:=fun d' H'=>d'=d∧H'=δ.app s.H al) hs.eB hs.env fu hc (JJ h ⟨rfl,rfl⟩)
 refine⟨fun _ _=>trivial,?_⟩
 rw[Oper.semAt_plain (FW ro) a.eval o (uL hc)]
 have hn:=k c' w' (a.put o.dst v) (hs.next eB eJ hd hr) eJ
 rcases hy with hy|⟨hy,rfl⟩
 ·rw[hy];exact hn
 ·rw[hy];exact hn
