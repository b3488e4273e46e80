/- 3 -/
import Derived.Test.YtnaefnajkaohgaaGreatDoorH02
import Derived.Laws.IdiomRangeMap
import Derived.RangeFuncLeaves
import Derived.OwnWalkIn
set_option linter.all false
namespace Go.AL
open Go
def Ig:Int→Bool
 | .ofNat m=>Nat.ble m 9223372036854775807
 | .negSucc m=>Nat.ble m 9223372036854775807
def Zg(n:Int):Ig n=true↔mK n:=by
 unfold mK
 cases n with
 | ofNat m=>
  have e:Ig (.ofNat m)=Nat.ble m 9223372036854775807:=rfl
  rw[e,Nat.ble_eq]
  have:(Int.ofNat m)=(m:Int):=rfl
  omega
 | negSucc m=>
  have e:Ig (.negSucc m)=Nat.ble m 9223372036854775807:=rfl
  rw[e,Nat.ble_eq]
  have:Int.negSucc m = -((m:Int)+1):=Int.negSucc_eq m
  omega
instance(n:Int):Decidable (mK n):=decidable_of_iff (Ig n=true) (Zg n)
def Io(k:Nat):Int→Bool
 | .ofNat m=>Nat.ble m k
 | .negSucc _=>true
def pa(n:Int)(k:Nat):Prop:=n≤(k:Int)
def Z3(n:Int)(k:Nat):Io k n=true↔pa n k:=by
 unfold pa
 cases n with
 | ofNat m=>
  have e:Io k (.ofNat m)=Nat.ble m k:=rfl
  rw[e,Nat.ble_eq]
  have:(Int.ofNat m)=(m:Int):=rfl
  omega
 | negSucc m=>
  have e:Io k (.negSucc m)=true:=rfl
  rw[e]
  have:Int.negSucc m = -((m:Int)+1):=Int.negSucc_eq m
  simp only[true_iff]
  omega
instance(n:Int)(k:Nat):Decidable (pa n k):=decidable_of_iff (Io k n=true) (Z3 n k)
inductive Dl where
 | no
 | cells (v o:Nat) (xs:List D)
 | obj (v:Nat) (ob:Ob)
 | new (ob:Ob)
 deriving Inhabited
def Dl.app(H:U)(al:Al):Dl→U
 | .no=>H
 | .cells v o xs=>match H[v]? with
  | some (.row t g cs)=>H.set v (.row t g (cs.take o++xs++cs.drop (o+xs.length)))
  | _=>H
 | .obj v ob=>H.set v ob
 | .new ob=>al.2 ob
abbrev R:=Option (D×Dl)
def ret(d:D):R:=some (d,.no)
def jr(op:BinOp)(k:IntKind)(a b:Int):Option D:=
 match op with
 | .add=>if k = .i64 then(if mK (a+b)then some (.val (.int .i64 (a+b)))else none)else some (.val (.int k (k.wrap (a+b))))
 | .sub=>if k = .i64 then(if mK (a-b)then some (.val (.int .i64 (a-b)))else none)else some (.val (.int k (k.wrap (a-b))))
 | .mul=>if k = .i64 then(if mK (a*b)then some (.val (.int .i64 (a*b)))else none)else some (.val (.int k (k.wrap (a*b))))
 | .quo=>if b=0 then none else some (.val (.int k (k.wrap (a.tdiv b))))
 | .rem=>if b=0 then none else some (.val (.int k (a.tmod b)))
 | .and | .or | .xor | .andNot=>some (.val (.int k (bits op k a b)))
 | .eql=>some (.val (.bool (a == b)))
 | .neq=>some (.val (.bool (a != b)))
 | .lss=>some (.val (.bool (decide (a<b))))
 | .leq=>some (.val (.bool (decide (a≤b))))
 | .gtr=>some (.val (.bool (decide (a>b))))
 | .geq=>some (.val (.bool (decide (a≥b))))
 | _=>none
def MW(op:BinOp)(k:IntKind)(a b:Int):Option D:=
 match op with
 | .shl=>if 0≤b then some (.val (.int k (k.wrap (a*2 ^ (min b.toNat k.bits)))))else none
 | .shr=>if 0≤b then some (.val (.int k (a.fdiv (2 ^ (min b.toNat k.bits)))))else none
 | _=>none
def Aw(op:BinOp)(a b:ByteArray):Option D:=
 match op with
 | .eql=>some (.val (.bool (a.data.toList == b.data.toList)))
 | .neq=>some (.val (.bool (!(a.data.toList == b.data.toList))))
 | .add=>if pa ((a.size+b.size:Nat):Int) 9223372036854775807 then some (.val (.string (a++b)))else none
 | _=>none
def kE(op:BinOp)(x y:D):Option D:=
 match x,y with
 | .val (.int k a),.val (.int k' b)=>if o7 op then MW op k a b else if k=k' then jr op k a b else none
 | .val (.string a),.val (.string b)=>Aw op a b
 | _,_=>none
def DF(op:UnOp)(x:D):Option D:=
 match op,x with
 | .not,.val (.bool b)=>some (.val (.bool (!b)))
 | .neg,.val (.int .i64 n)=>if mK (-n)then some (.val (.int .i64 (-n)))else none
 | .xor,.val (.int k n)=>some (.val (.int k (bits .xor k (if k.signed then -1 else k.max) n)))
 | _,_=>none
def xh(iJ:Bool)(ls:List nX)(neg:Bool)(x y:D):Option D:=
 match iJ,x,y with
 | true,.agg a,.agg b=>match nI ls a b with
  | some r=>some (.val (.bool (if neg then !r else r)))
  | none=>none
 | false,x,y=>match nI ls [x] [y]with
  | some r=>some (.val (.bool (if neg then !r else r)))
  | none=>none
 | _,_,_=>none
def yh(c a b:D):Option D:=
 match c with
 | .val (.bool x)=>some (if x then a else b)
 | _=>none
def tG(x:D)(H:U):Option D:=
 match x with
 | .ptr v g o=>match rowAt H v g with
  | some (_,cs)=>cs[o]?
  | none=>none
 | .eW cs=>cs[0]?
 | _=>none
def tH(n:Nat)(x:D)(H:U):Option D:=
 match x with
 | .ptr v g o=>match rowAt H v g with
  | some (_,cs)=>if o+n≤cs.length then some (.agg ((cs.drop o).take n))else none
  | none=>none
 | .eW cs=>if n≤cs.length then some (.agg (cs.take n))else none
 | _=>none
def yB(a x:D)(H:U):R:=
 match a with
 | .ptr v g o=>match rowAt H v g with
  | some (_,cs)=>if o<cs.length∧one x=true then some (.any,.cells v o [x])else none
  | none=>none
 | _=>none
def yC(n:Nat)(a x:D)(H:U):R:=
 match a,cellsOf x with
 | .ptr v g o,some xs=>match rowAt H v g with
  | some (_,cs)=>if xs.length=n∧o+n≤cs.length then some (.any,.cells v o xs)else none
  | none=>none
 | _,_=>none
def po(t:TypeId)(x:D)(n:Nat):R:=
 match cellsOf x with
 | some cs=>some (.ptr n 0 0,.new (.row t 0 cs))
 | none=>none
def y9(env:fQ)(z:List D)(ps:List (Nat×Nat×X)):Option D:=
 match partsOf env ps with
 | some l=>match lay l z with
  | some cs=>some (.agg cs)
  | none=>none
 | none=>none
def vB(env:fQ)(t sz:Nat)(z:List D)(m:Nat)(ps:List (Nat×X))(n:Nat):R:=
 match partsOf env (ps.map fun p=>(p.1*sz,sz,p.2))with
 | some l=>match lay l (List.replicate m z).flatten with
  | some cs=>some (.eF n 0 sz 0 m,.new (.row t 0 cs))
  | none=>none
 | none=>none
def BH(off:Nat)(x:D):Option D:=
 match x with
 | .ptr v g o=>some (.ptr v g (o+off))
 | .eW cs=>some (.eW (cs.drop off))
 | _=>none
def xm(off n:Nat)(iJ:Bool)(x:D):Option D:=
 match x with
 | .agg cs=>if iJ then(if off+n≤cs.length then some (.agg ((cs.drop off).take n))else none)else cs[off]?
 | _=>none
def nS(sz:Nat)(x i:D):Option D:=
 match x,i with
 | .sl fV es,.val (.int _ n)=>if fV=sz∧0≤n∧n<es.length then some (.eW (es.getD n.toNat []))else none
 | .eF v g fV off len,.val (.int _ n)=>if fV=sz∧0≤n∧n<len then some (.ptr v g ((off+n.toNat)*sz))else none
 | _,_=>none
def Cu(sz n:Nat)(x i:D):Option D:=
 match x,i with
 | .ptr v g o,.val (.int _ k)=>if 0≤k∧k<n then some (.ptr v g (o+k.toNat*sz))else none
 | .eW cs,.val (.int _ k)=>if 0≤k∧k<n then some (.eW (cs.drop (k.toNat*sz)))else none
 | _,_=>none
def Ih(sz n:Nat)(iJ:Bool)(x i:D):Option D:=
 match x,i with
 | .agg cs,.val (.int _ k)=>if 0≤k∧k<n then xm (k.toNat*sz) sz iJ (.agg cs)else none
 | _,_=>none
def LP(x i:D):Option D:=
 match x,i with
 | .val (.string s),.val (.int _ k)=>if 0≤k∧k<s.size then some (.val (.int .u8 ((s.data.toList.getD k.toNat 0).toNat)))else none
 | _,_=>none
def x5(qv:KK)(z:D)(ok:Bool)(m k:D)(H:U):Option D:=
 match m,keyOf k with
 | .fE v,some kv=>match kX H v with
  | some (kk,es)=>if kk=qv∧kk.has kv=true then(match lL es kv with
    | some d=>some (if ok then .tup [d,.val (.bool true)]else d)
    | none=>some (if ok then .tup [z,.val (.bool false)]else z))else none
  | none=>none
 | _,_=>none
def wu(qv:KK)(m k x:D)(H:U):R:=
 match m,keyOf k with
 | .fE v,some kv=>match kX H v with
  | some (kk,es)=>if kk=qv∧kk.has kv=true then some (.any,.obj v (.map kk (ke es kv x)))else none
  | none=>none
 | _,_=>none
def He(x:D)(i:Nat):Option D:=
 match x with
 | .tup ds=>ds[i]?
 | _=>none
def z8(t sz bytes:Nat)(z:List D)(l c:D)(v:Nat):R:=
 match l,c with
 | .val (.int _ n),.val (.int _ m)=>if 0≤n∧n≤m∧pa m 9223372036854775807∧pa ((bytes:Int)*m) 281474976710656 then some (.eF v 0 sz 0 n.toNat,.new (.row t 0 (List.replicate m.toNat z).flatten))else none
 | _,_=>none
def sN(env:fQ)(sz:Nat)(x:D)(lo hi:Option X):Option D:=
 match x with
 | .sl fV es=>match iz env lo 0,iz env hi es.length with
  | some l,some h=>if fV=sz∧0≤l∧l≤h∧h≤es.length then some (.sl sz ((es.drop l.toNat).take (h.toNat-l.toNat)))else none
  | _,_=>none
 | .eF v g fV off len=>match iz env lo 0,iz env hi len with
  | some l,some h=>if fV=sz∧0≤l∧l≤h∧h≤len then some (.eF v g sz (off+l.toNat) (h.toNat-l.toNat))else none
  | _,_=>none
 | .eG=>match iz env lo 0,iz env hi 0 with
  | some l,some h=>if l=0∧h=0 then some .eG else none
  | _,_=>none
 | _=>none
def Jj(env:fQ)(x:D)(lo hi:Option X):Option D:=
 match x with
 | .val (.string s)=>match iz env lo 0,iz env hi s.size with
  | some l,some h=>if 0≤l∧l≤h∧h≤s.size then some (.val (.string (s.extract l.toNat h.toNat)))else none
  | _,_=>none
 | _=>none
def se(t sz bytes:Nat)(x y:D)(H:U)(vn:Nat):R:=
 match kY sz H y with
 | some (ys,n)=>match x with
  | .eF v g fV off len=>match rowAt H v g with
   | some (t',cs)=>if fV=sz∧t'=t∧(off+len)*sz≤cs.length∧(len+n)*bytes≤140737488355328∧len+n≤9223372036854775807 then
     some (.eF v (g+1) sz 0 (len+n),.obj v (.row t (g+1) ((cs.drop (off*sz)).take (len*sz)++ys)))else none
   | none=>none
  | .eG=>if n=0 then some (.eG,.no)else if n*bytes≤140737488355328∧n≤9223372036854775807 then some (.eF vn 0 sz 0 n,.new (.row t 0 ys))else none
  | _=>none
 | none=>none
def ze(sz:Nat)(x y:D)(H:U):R:=
 match x,kY sz H y with
 | .eF v g fV off len,some (ys,n)=>match rowAt H v g with
  | some (t,cs)=>if fV=sz∧(off+len)*sz≤cs.length then
    some (.val (.int .i64 (min n len:Nat)),.obj v (.row t g (cs.take (off*sz)++ys.take (min n len*sz)++cs.drop (off*sz+min n len*sz))))else none
  | none=>none
 | .eG,some _=>some (.val (.int .i64 0),.no)
 | _,_=>none
def oq(k:wV)(x:D)(H:U):Option D:=
 match k,x with
 | .slice,.sl _ es=>some (.val (.int .i64 es.length))
 | .slice,.eG=>some (.val (.int .i64 0))
 | .slice,.eF _ _ _ _ len=>some (.val (.int .i64 len))
 | .string,.val (.string s)=>some (.val (.int .i64 s.size))
 | .map,.fE v=>match kX H v with
  | some (_,es)=>some (.val (.int .i64 es.length))
  | none=>none
 | _,_=>none
def z7(env:fQ)(isMax:Bool)(xs:List X):Option D:=
 match pG env xs with
 | some [a,b]=>some (.val (.int .i64 (if isMax then max a b else min a b)))
 | some [a,b,c]=>some (.val (.int .i64 (if isMax then max (max a b) c else min (min a b) c)))
 | _=>none
def ya(x:D):Option D:=
 match x with
 | .ptr v g o=>some (.ptr v g o)
 | .eW cs=>some (.eW cs)
 | .fn (.func f) a b=>some (.fn (.func f) a b)
 | .ic v=>some (.ic v)
 | _=>none
def GZ(k:IntKind)(x:D):Option D:=
 match x with
 | .val (.int _ n)=>some (.val (.int k (k.wrap n)))
 | _=>none
def y8(x:D)(H:U):Option D:=
 match kY 1 H x with
 | some (ys,_)=>match bytesOf ys with
  | some ns=>some (.val (.string (ns.foldl (fun r n=>r.push (UInt8.ofNat n.toNat)) ByteArray.empty)))
  | none=>none
 | none=>none
def lift:Option D→R
 | some d=>some (d,.no)
 | none=>none
def fG(env:fQ)(H:U)(n:Nat):gP→R
 | .mv x=>lift (some (ev env x))
 | .pick c a b=>lift (yh (ev env c) (ev env a) (ev env b))
 | .box t x=>po t (ev env x) n
 | .alloc t z=>some (.ptr n 0 0,.new (.row t 0 z))
 | .build z ps=>lift (y9 env z ps)
 | .buildSl t sz z m ps=>vB env t sz z m ps n
 | .ld1 x=>lift (tG (ev env x) H)
 | .ldN m x=>lift (tH m (ev env x) H)
 | .st1 a x=>yB (ev env a) (ev env x) H
 | .stN m a x=>yC m (ev env a) (ev env x) H
 | .nilck x=>lift (ya (ev env x))
 | .arith op x y=>lift (kE op (ev env x) (ev env y))
 | .eqS iJ ls neg x y=>lift (xh iJ ls neg (ev env x) (ev env y))
 | .un op x=>lift (DF op (ev env x))
 | .conv k x=>lift (GZ k (ev env x))
 | .b2s x=>lift (y8 (ev env x) H)
 | .mkfn f first cap=>lift (some (.fn f (first.map (ev env)) (cap.map (ev env))))
 | .mkmap kk=>some (.fE n,.new (.map kk []))
 | .mksl t sz bytes z l c=>z8 t sz bytes z (ev env l) (ev env c) n
 | .slc sz x lo hi=>lift (sN env sz (ev env x) lo hi)
 | .slcS x lo hi=>lift (Jj env (ev env x) lo hi)
 | .fieldA off x=>lift (BH off (ev env x))
 | .field off m iJ x=>lift (xm off m iJ (ev env x))
 | .idxA sz x i=>lift (nS sz (ev env x) (ev env i))
 | .idxArr sz m x i=>lift (Cu sz m (ev env x) (ev env i))
 | .idx sz m iJ x i=>lift (Ih sz m iJ (ev env x) (ev env i))
 | .idxStr x i=>lift (LP (ev env x) (ev env i))
 | .lookup kk z ok m k=>lift (x5 kk z ok (ev env m) (ev env k) H)
 | .mapUpd kk m k x=>wu kk (ev env m) (ev env k) (ev env x) H
 | .ext x i=>lift (He (ev env x) i)
 | .call _ _ | .callN _ _ | .callv _ _=>none
 | .app t sz bytes x y=>se t sz bytes (ev env x) (ev env y) H n
 | .copy sz x y=>ze sz (ev env x) (ev env y) H
 | .len k x=>lift (oq k (ev env x) H)
 | .minmax isMax xs=>lift (z7 env isMax xs)
 | .nilS .. | .capE .. | .appZ .. | .clr .. | .rangeS .. | .nextS .. | .rangeM .. | .nextM .. | .entry .. => none
section
variable{env:fQ}{H:U}{al:Al}{d:D}{δ:Dl}{K:iO}
def afi{a b c:D}(h:yh a b c=some d)(hk:K d H):CZ a b c H K:=by
 unfold yh at h
 unfold CZ
 (repeat' split at h)<;>simp_all
def Z0{x:D}(h:tG x H=some d)(hk:K d H):CB x H K:=by
 unfold tG at h
 unfold CB
 (repeat' split at h)<;>simp_all
def Z1{n:Nat}{x:D}(h:tH n x H=some d)(hk:K d H):CD n x H K:=by
 unfold tH at h
 unfold CD
 (repeat' split at h)<;>simp_all
def T8{z:List D}{ps:List (Nat×Nat×X)}(h:y9 env z ps=some d)(hk:K d H):wZ env z ps H K:=by
 unfold y9 at h
 unfold wZ
 (repeat' split at h)<;>simp_all
def aaK{x:D}(h:ya x=some d)(hk:K d H):CU x H K:=by
 unfold ya at h
 unfold CU
 (repeat' split at h)<;>simp_all
def agP{op:UnOp}{x:D}(h:DF op x=some d)(hk:K d H):DE op x H K:=by
 unfold DF at h
 unfold DE
 (repeat' split at h)<;>simp_all
def Vd{b:Bool}{ls:List nX}{neg:Bool}{x y:D}(h:xh b ls neg x y=some d)(hk:K d H):vJ b ls neg x y H K:=by
 unfold xh at h
 unfold vJ
 (repeat' split at h)<;>simp_all
def UO{k:IntKind}{x:D}(h:GZ k x=some d)(hk:K d H):Bt k x H K:=by
 unfold GZ at h
 unfold Bt
 (repeat' split at h)<;>simp_all
def TU{x:D}(h:y8 x H=some d)(hk:K d H):Bd x H K:=by
 unfold y8 at h
 unfold Bd
 (repeat' split at h)<;>simp_all
def agi{sz:Nat}{x:D}{lo hi:Option X}(h:sN env sz x lo hi=some d)(hk:K d H):Dp env sz x lo hi H K:=by
 unfold sN at h
 unfold Dp
 (repeat' split at h)<;>simp_all
def agh{x:D}{lo hi:Option X}(h:Jj env x lo hi=some d)(hk:K d H):Ap env x lo hi H K:=by
 unfold Jj at h
 unfold Ap
 (repeat' split at h)<;>simp_all
def V1{off:Nat}{x:D}(h:BH off x=some d)(hk:K d H):BG off x H K:=by
 unfold BH at h
 unfold BG
 (repeat' split at h)<;>simp_all
def Pa{off n:Nat}{b:Bool}{x:D}(h:xm off n b x=some d)(hk:K d H):xl off n b x H K:=by
 unfold xm at h
 unfold xl
 (repeat' split at h)<;>simp_all
def Zh{sz:Nat}{x i:D}(h:nS sz x i=some d)(hk:K d H):Cs sz x i H K:=by
 unfold nS at h
 unfold Cs
 (repeat' split at h)<;>simp_all
def Zi{sz n:Nat}{x i:D}(h:Cu sz n x i=some d)(hk:K d H):Ct sz n x i H K:=by
 unfold Cu at h
 unfold Ct
 (repeat' split at h)<;>simp_all
def Zj{x i:D}(h:LP x i=some d)(hk:K d H):Cw x i H K:=by
 unfold LP at h
 unfold Cw
 (repeat' split at h)<;>simp_all
def aal{kk:KK}{z:D}{ok:Bool}{m k:D}(h:x5 kk z ok m k H=some d)(hk:K d H):CG kk z ok m k H K:=by
 unfold x5 at h
 unfold CG
 split at h
 ·split at h
  ·split at h
   ·rename_i hc
    obtain⟨rfl,hc⟩:=hc
    simp only[*,true_and]
    split at h
    ·rename_i heq;cases h;simp only[heq];exact hk
    ·rename_i heq;cases h;simp only[heq];exact hk
   ·cases h
  ·cases h
 ·cases h
def Vn{x:D}{i:Nat}(h:He x i=some d)(hk:K d H):BE x i H K:=by
 unfold He at h
 unfold BE
 (repeat' split at h)<;>simp_all
def aad{k:wV}{x:D}(h:oq k x H=some d)(hk:K d H):CE k x H K:=by
 unfold oq at h
 unfold CE
 (repeat' split at h)<;>simp_all
def aaA{b:Bool}{xs:List X}(h:z7 env b xs=some d)(hk:K d H):CP env b xs H K:=by
 unfold z7 at h
 unfold CP
 (repeat' split at h)<;>simp_all
def TO{op:BinOp}{k:IntKind}{a b:Int}(h:jr op k a b=some d)(hk:K d H):Bb op k a b H K:=by
 unfold jr at h
 unfold Bb
 (repeat' split at h)<;>simp_all
def agd{op:BinOp}{k:IntKind}{a b:Int}(h:MW op k a b=some d)(hk:K d H):Dn op k a b H K:=by
 unfold MW at h
 unfold Dn
 (repeat' split at h)<;>simp_all
def agF{op:BinOp}{a b:ByteArray}(h:Aw op a b=some d)(hk:K d H):Jo op a b H K:=by
 unfold Aw at h
 unfold Jo
 (repeat' split at h)<;>simp_all [pa]
def T5{t:TypeId}{x:D}(h:po t x al.1=some (d,δ))(hk:K d (δ.app H al)):Bh t x al K:=by
 unfold po at h
 unfold Bh
 (repeat' split at h)<;>cases h<;>simp_all [Dl.app]
def T7{t sz:Nat}{z:List D}{m:Nat}{ps:List (Nat×X)}(h:vB env t sz z m ps al.1=some (d,δ))(hk:K d (δ.app H al)):Bi env t sz z m ps al K:=by
 unfold vB at h
 unfold Bi
 (repeat' split at h)<;>cases h<;>simp_all [Dl.app]
def Dg{v g:Nat}{x:TypeId×List D}(h:rowAt H v g=some x):H[v]? = some (.row x.1 g x.2):=by
 unfold rowAt at h
 split at h
 ·split at h
  ·rename_i e;subst e;cases h;assumption
  ·cases h
 ·cases h
def agC{a x:D}(h:yB a x H=some (d,δ))(hk:K d (δ.app H al)):Ds a x H K:=by
 unfold yB at h
 unfold Ds
 split at h
 ·split at h
  ·rename_i v g o _ t cs gq
   split at h
   ·rename_i hc
    cases h
    simp only[gq]
    refine⟨hc.1,hc.2,?_⟩
    simp only[Dl.app,Dg gq]at hk
    have e:cs.set o x=cs.take o ++ [x]++cs.drop (o + [x].length):=by
     rw[cH,if_pos hc.1];simp
    rw[e]
    exact hk
   ·cases h
  ·cases h
 ·cases h
def agD{n:Nat}{a x:D}(h:yC n a x H=some (d,δ))(hk:K d (δ.app H al)):Dt n a x H K:=by
 unfold yC at h
 unfold Dt
 split at h
 ·split at h
  ·rename_i v g o xs _ _ t cs gq
   split at h
   ·rename_i hc
    cases h
    simp only[*]
    refine⟨trivial,trivial,?_⟩
    simp only[Dl.app,Dg gq]at hk
    rw[hc.1]at hk
    exact hk
   ·cases h
  ·cases h
 ·cases h
def aaD{t sz bytes:Nat}{z:List D}{l c:D}(h:z8 t sz bytes z l c al.1=some (d,δ))(hk:K d (δ.app H al)):CQ t sz bytes z l c al K:=by
 unfold z8 at h
 unfold CQ
 (repeat' split at h)<;>cases h<;>simp_all [Dl.app,pa]
def aax{kk:KK}{m k x:D}(h:wu kk m k x H=some (d,δ))(hk:K d (δ.app H al)):CL kk m k x H K:=by
 unfold wu at h
 unfold CL
 split at h
 ·split at h
  ·split at h
   ·rename_i hc
    obtain⟨rfl,hc⟩:=hc
    cases h
    simp only[*,true_and]
    exact hk
   ·cases h
  ·cases h
 ·cases h
def TN{t sz bytes:Nat}{x y:D}(h:se t sz bytes x y H al.1=some (d,δ))(hk:K d (δ.app H al)):Ba t sz bytes x y H al K:=by
 unfold se at h
 unfold Ba
 (repeat' split at h)<;>cases h<;>simp_all [Dl.app]
def UQ{sz:Nat}{x y:D}(h:ze sz x y H=some (d,δ))(hk:K d (δ.app H al)):Bw sz x y H K:=by
 unfold ze at h
 unfold Bw
 (repeat' split at h)<;>cases h<;>simp_all [Dl.app]
def TX{op:BinOp}{x y:D}(h:kE op x y=some d)(hk:K d H):Bf op x y H K:=by
 unfold kE at h
 unfold Bf
 split at h
 ·split at h
  ·rename_i hs;simp only[hs,if_true];exact agd h hk
  ·rename_i hs
   simp only[hs]
   split at h
   ·rename_i e;exact⟨e,TO h hk⟩
   ·cases h
 ·exact agF h hk
 ·cases h
def Zk{sz n:Nat}{b:Bool}{x i:D}(h:Ih sz n b x i=some d)(hk:K d H):Cv sz n b x i H K:=by
 unfold Ih at h
 unfold Cv
 split at h
 ·split at h
  ·rename_i hc;exact⟨hc,Pa h hk⟩
  ·cases h
 ·cases h
def lB{o:Option D}(h:lift o=some (d,δ)):o=some d∧δ = .no:=by
 cases o<;>simp[lift]at h
 exact⟨by rw[h.1],h.2.symm⟩
def N6{io:gP}(h:fG env H al.1 io=some (d,δ))(hk:K d (δ.app H al)):A' env H al K io:=by
 cases io<;>simp only[fG]at h<;>simp only[A']
 case mv=>obtain⟨h2,rfl⟩:=lB h;cases h2;exact hk
 case mkfn=>obtain⟨h2,rfl⟩:=lB h;cases h2;exact hk
 case alloc=>cases h;exact hk
 case mkmap=>cases h;exact hk
 case call=>cases h
 case callN=>cases h
 case callv=>cases h
 case nilS=>cases h
 case capE=>cases h
 case appZ=>cases h
 case clr=>cases h
 case rangeS=>cases h
 case nextS=>cases h
 case rangeM=>cases h
 case nextM=>cases h
 case entry=>cases h
 case box=>exact T5 h hk
 case buildSl=>exact T7 h hk
 case st1=>exact agC h hk
 case stN=>exact agD h hk
 case mksl=>exact aaD h hk
 case mapUpd=>exact aax h hk
 case app=>exact TN h hk
 case copy=>exact UQ h hk
 case pick=>obtain⟨h2,rfl⟩:=lB h;exact afi h2 hk
 case build=>obtain⟨h2,rfl⟩:=lB h;exact T8 h2 hk
 case ld1=>obtain⟨h2,rfl⟩:=lB h;exact Z0 h2 hk
 case ldN=>obtain⟨h2,rfl⟩:=lB h;exact Z1 h2 hk
 case nilck=>obtain⟨h2,rfl⟩:=lB h;exact aaK h2 hk
 case arith=>obtain⟨h2,rfl⟩:=lB h;exact TX h2 hk
 case eqS=>obtain⟨h2,rfl⟩:=lB h;exact Vd h2 hk
 case un=>obtain⟨h2,rfl⟩:=lB h;exact agP h2 hk
 case conv=>obtain⟨h2,rfl⟩:=lB h;exact UO h2 hk
 case b2s=>obtain⟨h2,rfl⟩:=lB h;exact TU h2 hk
 case slc=>obtain⟨h2,rfl⟩:=lB h;exact agi h2 hk
 case slcS=>obtain⟨h2,rfl⟩:=lB h;exact agh h2 hk
 case fieldA=>obtain⟨h2,rfl⟩:=lB h;exact V1 h2 hk
 case field=>obtain⟨h2,rfl⟩:=lB h;exact Pa h2 hk
 case idxA=>obtain⟨h2,rfl⟩:=lB h;exact Zh h2 hk
 case idxArr=>obtain⟨h2,rfl⟩:=lB h;exact Zi h2 hk
 case idx=>obtain⟨h2,rfl⟩:=lB h;exact Zk h2 hk
 case idxStr=>obtain⟨h2,rfl⟩:=lB h;exact Zj h2 hk
 case lookup=>obtain⟨h2,rfl⟩:=lB h;exact aal h2 hk
 case ext=>obtain⟨h2,rfl⟩:=lB h;exact Vn h2 hk
 case len=>obtain⟨h2,rfl⟩:=lB h;exact aad h2 hk
 case minmax=>obtain⟨h2,rfl⟩:=lB h;exact aaA h2 hk
end
end Go.AL
namespace Go.AL
open Go
mutual
def flat:D→Bool
 | .any | .val _ | .eG=>true
 | .agg cs | .tup cs=>oh cs
 | .sl _ es=>es.isEmpty
 | _=>false
def oh:List D→Bool
 | []=>true
 | d::ds=>flat d&&oh ds
end
def chunks(sz:Nat):Nat→List D→List (List D)
 | 0,_=>[]
 | n+1,cs=>cs.take sz::chunks sz n (cs.drop sz)
def eP(ρ:Nat→Option Nat)(H:U):Nat→D→D
 | 0,d=>if closed d then d else .any
 | k+1,d=>if closed d then d else match d with
  | .agg cs=>.agg (cs.map (eP ρ H k))
  | .tup cs=>.tup (cs.map (eP ρ H k))
  | .sl sz es=>.sl sz (es.map (·.map (eP ρ H k)))
  | .eW cs=>.eW (cs.map (eP ρ H k))
  | .fn f a b=>.fn f (a.map (eP ρ H k)) (b.map (eP ρ H k))
  | .eF v g sz off len=>match ρ v with
   | some v'=>.eF v' g sz off len
   | none=>match rowAt H v g with
    | some (_,cs)=>if (off+len)*sz≤cs.length then .sl sz (chunks sz len ((cs.drop (off*sz)).map (eP ρ H k)))else .any
    | none=>.any
  | .ptr v g off=>match ρ v with
   | some v'=>.ptr v' g off
   | none=>match rowAt H v g with
    | some (_,cs)=>.eW ((cs.drop off).map (eP ρ H k))
    | none=>.any
  | .fE v=>match ρ v with
   | some v'=>.fE v'
   | none=>.any
  | .ic v=>match ρ v with
   | some v'=>.ic v'
   | none=>.any
  | d=>d
def jE(ρ:Nat→Option Nat)(H:U):Ob→Ob
 | .row t g cs=>.row t g (cs.map (eP ρ H 40))
 | .map kk es=>.map kk (es.map fun x=>(x.1,eP ρ H 40 x.2))
 | .gu rf env st=>.gu rf (env.map fun x=>(x.1,eP ρ H 40 x.2)) st
 | .qA s p=>.qA s p
 | .jJ m since seen=>.jJ (eP ρ H 40 m) since seen
 | .jZ=>.jZ
 | .dead=>.dead
 | .kW=>.dead
abbrev lP:=List (Nat×Bool)
def ga(ks:lP)(v:Nat):Option Nat:=ks.findIdx? (fun p=>p.2&&p.1 == v)
def nV(ks:lP)(H:U):U:=ks.map fun p=>if p.2 then(match H[p.1]? with|some o=>jE (ga ks) H o|none=>.dead)else .dead
def gW(n:Nat):D→List Nat
 | .eF v _ _ _ _=>if n≤v then [v]else []
 | .ptr v _ _=>if n≤v then [v]else []
 | .fE v=>if n≤v then [v]else []
 | .ic v=>if n≤v then [v]else []
 | _=>[]
def mT(n:Nat):Ob→List Nat
 | .row _ _ cs=>(cs.map (gW n)).flatten
 | .map _ es=>(es.map fun x=>gW n x.2).flatten
 | _=>[]
def dedup:List Nat→List Nat
 | []=>[]
 | x::r=>if x∈r then dedup r else x::dedup r
def ij(n:Nat)(K:List Nat):lP:=((List.range n).map fun v=>(v,true))++K.map fun v=>(v,true)
def forget(live:List Nat)(env:Env):Env:=live.map fun k=>(k,env.get k)
structure St where
 env:Env
 H:U
 marks:List Nat:=[]
 fW:Bool:=false
 deriving Inhabited
def cut(n:Nat)(live:List Nat)(s:St):St:=
 let env:=forget live s.env
 if s.H.length≤n then{ s with env:=env }else
 let K:=dedup (((env.map fun p=>gW n p.2).flatten++((s.H.take n).map (mT n)).flatten++s.marks.filter (n≤·)).filter (· < s.H.length))
 let ks:=ij n K
 { s with env:=env.map fun p=>(p.1,eP (ga ks) s.H 40 p.2),H:=nV ks s.H,marks:=s.marks.map fun v=>(ga ks v).getD v }
def Ae(n:Nat):D→List Nat
 | .eF v _ _ 0 _=>if n≤v then [v]else []
 | .tup ds=>(ds.map fun d=>match d with | .eF v _ _ 0 _=>if n≤v then [v]else []|_=>[]).flatten
 | _=>[]
inductive IR where
 | skip
 | ops (l:List eT)
 | kr (iH:List (Nat×Nat)) (l:List eT)
 | lF (iH:List (Nat×Nat)) (l es:List eT)
 | seq (a b:IR)
 | cond (c:X) (a b:IR)
 | block (id:Nat) (live:List Nat) (a:IR)
 | loop (live:List Nat) (a:IR)
 | l5 (rf:Nat) (live:List Nat) (x:X)
 | exit (id:Nat)
 | ret
 | bad
 | fz (S:List Nat) (a:IR)
 | sv (S:List Nat) (a b:List eT)
 deriving Inhabited
inductive s8 where
 | tmp (t:Nat)
 | vD (t:Nat)
 | qG (n t:Nat)
 deriving Inhabited
structure eI where
 ntmps:Nat
 body:IR
 results:List s8
 full:Bool:=false
 own:Nat:=0
 fz:Bool:=false
 deriving Inhabited
def Ak(s:St):s8→Option D
 | .tmp t=>some (s.env.get t)
 | .vD t=>tG (s.env.get t) s.H
 | .qG n t=>tH n (s.env.get t) s.H
def rU(s:St):List s8→Option (List D)
 | []=>some []
 | x::r=>match Ak s x,rU s r with
  | some d,some l=>some (d::l)
  | _,_=>none
def results(fn:eI)(s:St):Option D:=match rU s fn.results with
 | some [d]=>some d
 | some ds=>some (.tup ds)
 | none=>none
def qY(args:List D):Env:=args.zipIdx.map fun p=>(p.2,p.1)
def re:List Nat→List D→Env→Env
 | k::ks,d::ds,env=>re ks ds ((k,d)::env)
 | _,_,env=>env
def jA(env:fQ):gP→Option (FuncId×List D)
 | .call f args=>some (f,args.map (ev env))
 | .callN f args=>some (f,args.map (ev env))
 | .callv f args=>match ev env f with
  | .fn (.func k) first cap=>some (k,first++args.map (ev env)++cap)
  | _=>none
 | _=>none
def Cx:gP→Bool
 | .call _ _ | .callN _ _ | .callv _ _=>true
 | _=>false
def guardOf(env:fQ):Option (Nat×Bool)→Option Bool
 | none=>some true
 | some (s,want)=>match env s with
  | .val (.bool b)=>some (b == want)
  | .val (.tuple _)=>some false
  | _=>none
def uZ(n:Nat):D→D
 | .eF v g sz off len=>.eF (v+n) g sz off len
 | d=>d
def jx(n:Nat):D→D
 | .eF v g sz off len=>.eF (v+n) g sz off len
 | .tup ds=>.tup (ds.map (uZ n))
 | .agg ds=>.agg (ds.map (uZ n))
 | d=>d
def mO:Ob→Bool
 | .row _ _ cs=>fu cs
 | _=>false
def oi:Ob→Bool
 | .row _ _ cs=>oh cs
 | _=>false
def u5(p:D→Bool):D→Bool
 | .eF .. => true
 | d=>p d
def tP(p:D→Bool):D→Bool
 | .eF .. => true
 | .tup ds=>ds.all (u5 p)
 | .agg ds=>ds.all (u5 p)
 | d=>p d
def lM:D→Bool:=tP closed
def nU:D→Bool:=tP flat
def rowsOf(H:U)(v:Nat):Option (TypeId×Nat×List D):=match H[v]? with
 | some (.row t g cs)=>some (t,g,cs)
 | _=>none
def gv(H:U):Nat→D→List Nat
 | 0,_=>[]
 | k+1,d=>if closed d then []else match d with
  | .agg cs | .tup cs | .eW cs=>(cs.map (gv H k)).flatten
  | .sl _ es=>(es.map fun e=>(e.map (gv H k)).flatten).flatten
  | .fn _ a b=>(a.map (gv H k)).flatten++(b.map (gv H k)).flatten
  | .eF v _ _ _ _ | .ptr v _ _=>v::(match rowsOf H v with
   | some (_,_,cs)=>(cs.map (gv H k)).flatten
   | none=>[])
  | .fE v | .ic v=>[v]
  | _=>[]
def leave(own:Nat)(n:Nat)(H:U)(d:D):D×U:=
 if H.length≤n then(d,H)else
 let K:=dedup (((match own with|0=>[]|1=>Ae n d|3=>((gv H 40 d).filter (n≤·)).take 1|_=>(gv H 40 d).filter (n≤·))++((H.take n).map (mT n)).flatten).filter (· < H.length))
 let ks:=ij n K
 (eP (ga ks) H 40 d,nV ks H)
def kR(H:U)(S:List Nat):lP:=(List.range H.length).map fun v=>(v,!(S.contains v))
structure oT where
 params:List Nat
 a:IR
 b:IR
 deriving Inhabited
structure gy where
 fn:FuncId→Option eI
 round:Nat→Option oT:=fun _=>none
 sort:FuncId→Option Nat:=fun _=>none
 qB:FuncId→Bool:=fun _=>false
def after(s:St)(dst:Option Nat)(args:List D)(r:D)(Hn:U):Option St:=
 if (if fu args then lM r&&Hn.all mO else nU r&&Hn.all oi)then
  some { s with env:=put s.env dst (jx s.H.length r),H:=s.H++Hn }else none
def kb(S:List Nat)(s:St):St:=
 let ks:=kR s.H S
 { s with env:=s.env.map fun p=>(p.1,eP (ga ks) s.H 40 p.2),H:=nV ks s.H }
end Go.AL
namespace Go.AL
open Go
def uz{ds:List D}(h:fu ds=true){i:Nat}{d:D}(hd:ds[i]? = some d):closed d=true:=by
 induction ds generalizing i with
 | nil=>simp at hd
 | cons x xs ih=>
  simp only[fu,ah]at h
  cases i with
  | zero=>simp at hd;subst hd;exact h.1
  | succ i=>exact ih h.2 (by simpa using hd)
def Uv{es:List (List D)}(h:zc es=true){i:Nat}{e:List D}(he:es[i]? = some e):fu e=true:=by
 induction es generalizing i with
 | nil=>simp at he
 | cons x xs ih=>
  simp only[zc,ah]at h
  cases i with
  | zero=>simp at he;subst he;exact h.1
  | succ i=>exact ih h.2 (by simpa using he)
theorem eJ.closed{c c':Ctx}{w:World}(hF:∀ b,c.F b→c'.F b){u:Value}{d:D}(h:eJ c w u d)(hc:closed d=true):eJ c' w u d:=by
 induction h with
 | any v=>exact .any _
 | val v=>exact .val _
 | agg vs ds hl h1 h ih=>exact .agg vs _ hl h1 fun i v d hv hd=>ih i v d hv hd (uz hc hd)
 | tup vs ds hl h ih=>exact .tup vs _ hl fun i v d hv hd=>ih i v d hv hd (uz hc hd)
 | sl a len cap sz es g hlen js jO gH oo oF hr ih=>
  refine .sl a len cap sz _ g hlen js jO gH oo ?_ fun i e j d he hd=>ih i e j d he hd (uz (Uv hc he) hd)
  intro i e j d he hd
  obtain⟨b,o,ha,qJ,xC,h1⟩:=oF i e j d he hd
  exact⟨b,o,ha,hF b qJ,xC,h1⟩
 | eG=>exact .eG
 | eF=>cases hc
 | mm=>cases hc
 | ptr=>cases hc
 | eW b o cs g qJ oF hr ih=>exact .eW b o _ g (hF b qJ) oF fun j d hd=>ih j d hd (uz hc hd)
 | fE=>cases hc
 | fn f fs cs df dc iR iA h1 h2 pX qU=>
  simp only[AL.closed,ah]at hc
  exact .fn f fs cs _ _ iR iA (fun i v d hv hd=>pX i v d hv hd (uz hc.1 hd)) (fun i v d hv hd=>qU i v d hv hd (uz hc.2 hd))
 | ic=>cases hc
def zl{ds:List D}(h:oh ds=true){i:Nat}{d:D}(hd:ds[i]? = some d):flat d=true:=by
 induction ds generalizing i with
 | nil=>simp at hd
 | cons x xs ih=>
  simp only[oh,ah]at h
  cases i with
  | zero=>simp at hd;subst hd;exact h.1
  | succ i=>exact ih h.2 (by simpa using hd)
theorem eJ.flat{c c':Ctx}{w:World}{u:Value}{d:D}(h:eJ c w u d)(hc:flat d=true):eJ c' w u d:=by
 induction h with
 | any v=>exact .any _
 | val v=>exact .val _
 | agg vs ds hl h1 h ih=>exact .agg vs _ hl h1 fun i v d hv hd=>ih i v d hv hd (zl hc hd)
 | tup vs ds hl h ih=>exact .tup vs _ hl fun i v d hv hd=>ih i v d hv hd (zl hc hd)
 | sl a len cap sz es g hlen js jO gH oo oF hr ih=>
  simp only[AL.flat,cL]at hc
  subst hc
  exact .sl a len cap sz _ g hlen js jO (by simp) oo (by simp) (by simp)
 | eG=>exact .eG
 | eF=>cases hc
 | mm=>cases hc
 | ptr=>cases hc
 | eW=>cases hc
 | fE=>cases hc
 | fn=>cases hc
 | ic=>cases hc
theorem Og(sz:Nat):∀ (n:Nat) (cs:List D),(chunks sz n cs).length=n
 | 0,_=>rfl
 | n+1,cs=>by simp[chunks,Og sz n]
theorem JT(sz:Nat):∀ (n:Nat) (cs:List D) (i:Nat) (e:List D),(chunks sz n cs)[i]? = some e→i<n∧e=(cs.drop (i*sz)).take sz
 | 0,_,i,e,h=>by simp[chunks]at h
 | n+1,cs,0,e,h=>by simp[chunks]at h;subst h;simp
 | n+1,cs,i+1,e,h=>by
  simp only[chunks,cN]at h
  obtain⟨h1,h2⟩:=JT sz n _ i e h
  refine⟨by omega,?_⟩
  rw[h2,cU]
  congr 2
  rw[bg];omega
def agf{c:Ctx}{w:World}{b o sz len cap:Nat}{vs:List Value}{ds:List D}(hF:c.F b)(hc:Cells c w vs ds)(hl:ds.length=len*sz)(js:len≤cap)(jO:cap≤maxLen)
  (hv:∀ (j:Nat) (v:Value),vs[j]? = some v→w.cell? ⟨b,o+j,none⟩=some v):eJ c w (.slice (some ⟨b,o,none⟩) len cap) (.sl sz (chunks sz len ds)):=by
 have hJ:∀ (i:Nat) (e:List D) (j:Nat) (d:D),(chunks sz len ds)[i]? = some e→e[j]? = some d→ds[i*sz+j]? = some d∧j<sz:=by
  intro i e j d he hd
  obtain⟨_,rfl⟩:=JT sz len ds i e he
  rw[aA]at hd
  split at hd
  ·rename_i hj;rw[aD]at hd;exact⟨hd,hj⟩
  ·cases hd
 refine .sl _ len cap sz _ (fun i j=>vs.getD (i*sz+j) undef) (Og _ _ _) js jO ?_ (by simp) ?_ ?_
 ·intro e he
  obtain⟨i,hi⟩:=aF.1 he
  obtain⟨h1,rfl⟩:=JT sz len ds i e hi
  simp only[aT,bw,hl]
  have:(i+1)*sz≤len*sz:=bq _ h1
  rw[bg]at this
  omega
 ·intro i e j d he hd
  obtain⟨h1,_⟩:=hJ i e j d he hd
  obtain⟨v,k9,oI,_⟩:=hc.get h1
  refine⟨b,o,rfl,hF,?_,?_⟩
  ·simp only[List.getD,k9,aW];exact hv _ _ k9
  ·simp only[List.getD,k9,aW];exact oI
 ·intro i e j d he hd
  obtain⟨h1,_⟩:=hJ i e j d he hd
  obtain⟨v,k9,_,Cl⟩:=hc.get h1
  simp only[List.getD,k9,aW];exact Cl
theorem Cells.map{c c':Ctx}{w:World}{f:D→D}(hr:∀ v d,eJ c w v d→eJ c' w v (f d)){vs:List Value}{cs:List D}(h:Cells c w vs cs):Cells c' w vs (cs.map f):=
 ⟨by simpa using h.len,h.one,fun i v d hv hd=>by
  simp only[av,ai]at hd
  obtain⟨d0,jV,rfl⟩:=hd
  exact hr _ _ (h.rep i v d0 hv jV)⟩
def Ctx.eP(c:Ctx)(ks:lP)(H:U):Ctx where
 ι:=fun i g=>match ks[i]? with
  | some p=>c.ι p.1 g
  | none=>none
 F:=fun b=>c.F b∨∃ v L,kN c H v L∧ga ks v=none∧L.iM=false∧L.b=b
 RT:=c.RT
def Sy{ks:lP}{v i:Nat}(h:ga ks v=some i):ks[i]? = some (v,true):=by
 unfold ga at h
 rw[cI]at h
 obtain⟨hi,hp,_⟩:=h
 simp only[ah,beq_iff_eq]at hp
 rw[List.getElem?_eq_getElem hi]
 congr 1
 exact Prod.ext hp.2 hp.1
def Sx{ks:lP}{v:Nat}(h:ga ks v=none)(i:Nat):ks[i]?≠some (v,true):=by
 intro hi
 unfold ga at h
 rw[cF]at h
 have:=h _ (bk hi)
 simp at this
section
variable{G:GT}{c:Ctx}{H:U}{w:World}{ks:lP}
def AA{v i g:Nat}(h:ga ks v=some i):(c.eP ks H).ι i g=c.ι v g:=by simp[Ctx.eP,Sy h]
def yY{b:Nat}(h:c.F b):(c.eP ks H).F b:=Or.inl h
def NN{v:Nat}{L:Loc}(h1:kN c H v L)(h2:ga ks v=none)(h3:L.iM=false):(c.eP ks H).F L.b:=Or.inr ⟨v,L,h1,h2,h3,rfl⟩
theorem wx(h:e9 G c H w):∀ (k:Nat) {u:Value} {d:D},eJ c w u d→eJ (c.eP ks H) w u (eP (ga ks) H k d)
 | 0,u,d,hr=>by
  unfold AL.eP
  split
  ·rename_i hc;exact hr.closed (fun b hb=>yY hb) hc
  ·exact .any _
 | k+1,u,d,hr=>by
  have ih:=fun{u:Value} {d:D} (hr:eJ c w u d)=>wx h k hr
  unfold AL.eP
  split
  ·rename_i hc;exact hr.closed (fun b hb=>yY hb) hc
  ·cases hr with
   | any v=>exact .any _
   | val v=>exact .val _
   | agg vs ds hl h1 h2=>
     refine .agg vs _ (by simpa using hl) h1 fun i v d hv hd=>?_
     simp only[av,ai]at hd
     obtain⟨d0,jV,rfl⟩:=hd
     exact ih (h2 i v d0 hv jV)
   | tup vs ds hl h2=>
     refine .tup vs _ (by simpa using hl) fun i v d hv hd=>?_
     simp only[av,ai]at hd
     obtain⟨d0,jV,rfl⟩:=hd
     exact ih (h2 i v d0 hv jV)
   | sl a len cap sz es g hlen js jO gH oo oF hr=>
    refine .sl a len cap sz _ g (by simpa using hlen) js jO ?_ oo ?_ ?_
    ·intro e he
     simp only[ao]at he
     obtain⟨e0,BU,rfl⟩:=he
     simpa using gH e0 BU
    ·intro i e j d he hd
     simp only[av,ai]at he
     obtain⟨e0,BU,rfl⟩:=he
     simp only[av,ai]at hd
     obtain⟨d0,jV,rfl⟩:=hd
     obtain⟨b,o,ha,qJ,xC,h1⟩:=oF i e0 j d0 BU jV
     exact⟨b,o,ha,yY qJ,xC,h1⟩
    ·intro i e j d he hd
     simp only[av,ai]at he
     obtain⟨e0,BU,rfl⟩:=he
     simp only[av,ai]at hd
     obtain⟨d0,jV,rfl⟩:=hd
     exact ih (hr i e0 j d0 BU jV)
   | eG=>exact .eG
   | eF v g sz off len cap L eR hv js jO lY=>
    dsimp only
    split
    ·rename_i v' lA
     exact .eF v' g sz off len cap L (by rw[AA lA];exact eR) hv js jO lY
    ·rename_i Lk
     split
     ·rename_i t cs gq
      split
      ·rename_i lV
       have uS:=rW gq
       obtain⟨arr,h1,h2,h3,h4⟩:=wA h uS eR hv
       have im:=(((h4.drop (off*sz)).map (fun _ _ hr=>ih hr)).take (len*sz))
       have hlen:((cs.drop (off*sz)).map (AL.eP (ga ks) H k)).length=(cs.length-off*sz):=by simp
       have KW:chunks sz len ((cs.drop (off*sz)).map (AL.eP (ga ks) H k))=chunks sz len (((cs.drop (off*sz)).map (AL.eP (ga ks) H k)).take (len*sz)):=by
        have key:∀ (n:Nat) (xs:List D),chunks sz n xs=chunks sz n (xs.take (n*sz)):=by
         intro n
         induction n with
         | zero=>intro xs;rfl
         | succ n ih=>
          intro xs
          simp only[chunks]
          rw[cJ,Nat.min_eq_left (by rw[bg];omega),ih (xs.drop sz),List.drop_take,show(n+1)*sz-sz=n*sz by rw[bg];omega]
        exact key _ _
       rw[KW]
       refine agf (NN ⟨_,uS,rfl,eR⟩ Lk hv) im ?_ js jO fun j x hx=>?_
       ·rw[aT,hlen]
        rw[bg]at lV
        omega
       ·rw[aA]at hx
        split at hx
        ·rw[aD,aA]at hx
         split at hx
         ·rw[aD]at hx
          simp[World.cell?,h1]
          rw[a7]
          simpa using hx
         ·cases hx
        ·cases hx
      ·exact .any _
     ·exact .any _
   | mm v g sz off L eR a=>
    dsimp only
    split
    ·rename_i v' lA
     exact .mm v' g sz off L (by rw[AA lA];exact eR) a
    ·split
     ·split
      ·exact .sl a 0 0 sz _ (fun _ _=>undef) rfl (Nat.le_refl _) (by unfold maxLen;omega) (by simp[chunks]) (fun _=>rfl) (by simp[chunks]) (by simp[chunks])
      ·exact .any _
     ·exact .any _
   | ptr v g off L eR hv=>
    dsimp only
    split
    ·rename_i v' lA
     exact .ptr v' g off L (by rw[AA lA];exact eR) hv
    ·rename_i Lk
     split
     ·rename_i t cs gq
      have uS:=rW gq
      obtain⟨arr,h1,h2,h3,h4⟩:=wA h uS eR hv
      refine Kr (NN ⟨_,uS,rfl,eR⟩ Lk hv) ⟨_,(h4.drop off).map (fun _ _ hr=>ih hr),fun j x hx=>?_⟩
      rw[aD,aA]at hx
      split at hx
      ·rw[aD]at hx
       simp[World.cell?,h1]
       rw[a7]
       simpa using hx
      ·cases hx
     ·exact .any _
   | eW b o cs g qJ oF hr=>
    refine .eW b o _ g (yY qJ) ?_ ?_
    ·intro j d hd
     simp only[av,ai]at hd
     obtain⟨d0,jV,rfl⟩:=hd
     exact oF j d0 jV
    ·intro j d hd
     simp only[av,ai]at hd
     obtain⟨d0,jV,rfl⟩:=hd
     exact ih (hr j d0 jV)
   | fE v L eR hv=>
    dsimp only
    split
    ·rename_i v' lA;exact .fE v' L (by rw[AA lA];exact eR) hv
    ·exact .any _
   | fn f fs cs df dc iR iA h1 h2=>
    refine .fn f fs cs _ _ (by simpa using iR) (by simpa using iA) ?_ ?_
    ·intro i v d hv hd
     simp only[av,ai]at hd
     obtain⟨d0,jV,rfl⟩:=hd
     exact ih (h1 i v d0 hv jV)
    ·intro i v d hv hd
     simp only[av,ai]at hd
     obtain⟨d0,jV,rfl⟩:=hd
     exact ih (h2 i v d0 hv jV)
   | ic v L eR hv=>
    dsimp only
    split
    ·rename_i v' lA;exact .ic v' L (by rw[AA lA];exact eR) hv
    ·exact .any _
end
end Go.AL
namespace Go.AL
open Go
section
variable{G:GT}{c:Ctx}{H:U}{w:World}{ks:lP}
def wM(ks:lP):Prop:=∀ (i j:Nat) (p q:Nat×Bool),ks[i]? = some p→ks[j]? = some q→p.1=q.1→i=j
def MQ{i:Nat}{o:Ob}(h:(nV ks H)[i]? = some o)(ha:o≠.dead):∃ v o0,ks[i]? = some (v,true)∧H[v]? = some o0∧o=jE (ga ks) H o0:=by
 unfold nV at h
 simp only[av,ai]at h
 obtain⟨p,hp,he⟩:=h
 split at he
 ·rename_i hb
  split at he
  ·rename_i o0 Ql
   exact⟨p.1,o0,by rw[hp,← hb],Ql,he.symm⟩
  ·exact absurd he.symm ha
 ·exact absurd he.symm ha
def SQ{o:Ob}(h:(jE (ga ks) H o).alive=true):o.alive=true∧(jE (ga ks) H o).gen=o.gen:=by
 cases o<;>simp_all [jE,Ob.alive,Ob.gen]
def MH{v i:Nat}(hk:wM ks)(h:ks[i]? = some (v,true)):ga ks v=some i:=by
 cases hr:ga ks v with
 | none=>exact absurd h (Sx hr i)
 | some j=>
  have:=Sy hr
  rw[hk i j _ _ h this rfl]
def Ir{i:Nat}{L:Loc}(h:kN (c.eP ks H) (nV ks H) i L):∃ v,ks[i]? = some (v,true)∧kN c H v L:=by
 obtain⟨o,ho,ha,eR⟩:=h
 obtain⟨v,o0,h1,h2,rfl⟩:=MQ ho (by intro e;subst e;cases ha)
 obtain⟨a1,a2⟩:=SQ ha
 refine⟨v,h1,o0,h2,a1,?_⟩
 rw[a2]at eR
 simpa[Ctx.eP,h1]using eR
def R9{b:Nat}(h:lj (c.eP ks H) (nV ks H) b):lj c H b:=by
 obtain⟨i,L,hl,hv,e⟩:=h
 obtain⟨v,_,h2⟩:=Ir hl
 exact⟨v,L,h2,hv,e⟩
def An(h:e9 G c H w)(hk:wM ks):e9 G (c.eP ks H) (nV ks H) w where
 inj i j L L' h1 h2 h3 h4 he:=by
  obtain⟨v,k1,l1⟩:=Ir h1
  obtain⟨v',k2,l2⟩:=Ir h2
  have:=h.inj v v' L L' l1 l2 h3 h4 he
  subst this
  exact hk i j _ _ k1 k2 rfl
 lt b hb:=h.lt b (R9 hb)
 nF b hb hF:=by
  obtain⟨i,L,hl,hv,e⟩:=hb
  obtain⟨v,k1,l1⟩:=Ir hl
  rcases hF with hF|⟨v',L',l2,hn,lA,e'⟩
  ·exact h.nF b ⟨v,L,l1,hv,e⟩ hF
  ·have:=h.inj v v' L L' l1 l2 hv lA (e.trans e'.symm)
   subst this
   exact Sx hn i k1
 jG b hb:=by
  rcases hb with hb|⟨v,L,l,_,hv,e⟩
  ·exact h.jG b hb
  ·exact h.lt b ⟨v,L,l,hv,e⟩
 out i k hi:=by
  simp only[nV,List.length_map]at hi
  simp[Ctx.eP,aO hi]
 lk i o k ho jl:=by
  have gw:o≠.dead:=by
   rintro rfl
   rcases jl with jl|⟨jl,_⟩<;>cases jl
  obtain⟨v,o0,h1,h2,rfl⟩:=MQ ho gw
  rcases jl with jl|⟨ha,hg⟩
  ·cases o0<;>simp[jE]at jl
  ·obtain⟨a1,a2⟩:=SQ ha
   have:=h.lk v o0 k h2 (.inr ⟨a1,by rw[← a2];exact hg⟩)
   simpa[Ctx.eP,h1]using this
 ob i o ho:=by
  by_cases gw:o = .dead
  ·subst gw;simp[gd]
  ·obtain⟨v,o0,h1,h2,rfl⟩:=MQ ho gw
   have h0:=h.ob v o0 h2
   have eR:(c.eP ks H).ι i o0.gen=c.ι v o0.gen:=by simp[Ctx.eP,h1]
   have hr:∀ u d,eJ c w u d→eJ (c.eP ks H) w u (eP (ga ks) H 40 d):=fun u d hd=>wx h 40 hd
   cases o0 with
   | dead=>simp[jE,gd]
   | kW=>simp[jE,gd]
   | row t g cs=>
    simp only[jE,Ob.gen]at eR ⊢
    rw[eR]
    simp only[Ob.gen]at h0
    cases hL:c.ι v g with
    | none=>rw[hL]at h0;simp[gd]at h0
    | some L=>
     rw[hL]at h0
     simp only[gd]at h0 ⊢
     split
     ·rename_i hv;simp only[hv,if_true]at h0;simp[h0]
     ·rename_i hv
      simp only[hv]at h0
      obtain⟨arr,a1,a2,a3,a4⟩:=h0
      refine⟨arr,a1,a2,by simpa using a3,fun j d hd=>?_⟩
      simp only[av,ai]at hd
      obtain⟨d0,jV,rfl⟩:=hd
      obtain⟨x,o6,lJ,uT⟩:=a4 j d0 jV
      exact⟨x,o6,lJ,hr _ _ uT⟩
   | map kk es=>
    simp only[jE,Ob.gen]at eR ⊢
    rw[eR]
    simp only[Ob.gen]at h0
    cases hL:c.ι v 0 with
    | none=>rw[hL]at h0;simp[gd]at h0
    | some L=>
     rw[hL]at h0
     simp only[gd]at h0 ⊢
     obtain⟨hv,ky,arr,clock,a1,a2,a3,a4⟩:=h0
     refine⟨hv,fun x hx=>?_,arr,clock,a1,by simpa using a2,fun j e x he hx=>?_,by simpa using a4⟩
     ·obtain⟨y,hy,rfl⟩:=ao.1 hx
      exact ky y hy
     ·simp only[av,ai]at hx
      obtain⟨y,hy,rfl⟩:=hx
      obtain⟨p,q,r⟩:=a3 j e y he hy
      exact⟨p,hr _ _ q,r⟩
   | gu rf env st=>
    simp only[jE,Ob.gen]at eR ⊢
    rw[eR]
    simp only[Ob.gen]at h0
    cases hL:c.ι v 0 with
    | none=>rw[hL]at h0;simp[gd]at h0
    | some L=>
     rw[hL]at h0
     simp only[gd]at h0 ⊢
     obtain⟨hv,r,a1,a2,a3,a4⟩:=h0
     refine⟨hv,r,a1,fun k=>?_,a3,a4⟩
     have key:∀ (env:Env) (k:Nat),(Env.get (env.map fun x=>(x.1,eP (ga ks) H 40 x.2)) k)=eP (ga ks) H 40 (env.get k):=by
      intro env k
      induction env with
      | nil=>rfl
      | cons p r ih=>
       obtain⟨j,d⟩:=p
       simp only[List.map_cons,Env.tj]
       split
       ·rfl
       ·exact ih
     rw[key]
     exact hr _ _ (a2 k)
   | qA s p=>
    simp only[jE,Ob.gen]at eR ⊢
    rw[eR]
    simp only[Ob.gen]at h0
    cases hL:c.ι v 0 with
    | none=>rw[hL]at h0;simp[gd]at h0
    | some L=>
     rw[hL]at h0
     simpa only[gd]using h0
   | jJ m since seen=>
    simp only[jE,Ob.gen]at eR ⊢
    rw[eR]
    simp only[Ob.gen]at h0
    cases hL:c.ι v 0 with
    | none=>rw[hL]at h0;simp[gd]at h0
    | some L=>
     rw[hL]at h0
     simp only[gd]at h0 ⊢
     obtain⟨a1,a2,bm,a3,a4⟩:=h0
     exact⟨a1,a2,bm,hr _ _ a3,a4⟩
   | jZ=>
    simp only[jE,Ob.gen]at eR ⊢
    rw[eR]
    simp only[Ob.gen]at h0
    cases hL:c.ι v 0 with
    | none=>rw[hL]at h0;simp[gd]at h0
    | some L=>
     rw[hL]at h0
     simpa only[gd]using h0
 gl g cs hg:=by
  obtain⟨h1,h2⟩:=h.gl g cs hg
  exact⟨h1,h2.closed (fun b hb=>yY hb) (by simpa[AL.closed]using h1)⟩
 rt:=h.rt
def MV(h:e9 G c H w){n:Nat}(hn:∀ v,v<n→(ks[v]?).map (·.1)=some v):Step n c H w (c.eP ks H) (nV ks H) w where
 os:=⟨rfl,Nat.le_refl _⟩
 tape:=rfl
 output:=rfl
 size:=Nat.le_refl _
 RT:=rfl
 Fm b hb:=yY hb
 Fn b hb:=by
  rcases hb with hb|⟨v,L,l,_,hv,e⟩
  ·exact .inl hb
  ·exact .inr (.inr ⟨v,L,l,hv,e⟩)
 kept _ _ _:=rfl
 old v k L hv eR:=by
  have:=hn v hv
  simp only[ai]at this
  obtain⟨p,hp,e⟩:=this
  simp only[Ctx.eP,hp,e]
  exact eR
 own b hb:=.inr (R9 hb)
def Wn(env:Env)(k:Nat):(Env.get (env.map fun x=>(x.1,eP (ga ks) H 40 x.2)) k)=eP (ga ks) H 40 (env.get k):=by
 induction env with
 | nil=>rfl
 | cons p r ih=>
  obtain⟨j,d⟩:=p
  simp only[List.map_cons,Env.tj]
  split
  ·rfl
  ·exact ih
def OW(h:e9 G c H w){env:Env}{a:Act}(he:jW c w env.get a):jW (c.eP ks H) w (Env.get (env.map fun x=>(x.1,eP (ga ks) H 40 x.2))) a:=fun k=>by
 rw[Wn]
 exact wx h 40 (he k)
def Wd(live:List Nat)(env:Env)(k:Nat):(forget live env).get k = .any∨(forget live env).get k=env.get k:=by
 unfold forget
 induction live with
 | nil=>exact .inl rfl
 | cons x r ih=>
  simp only[List.map_cons,Env.tj]
  split
  ·rename_i e;subst e;exact .inr rfl
  ·exact ih
def zg{env:Env}{a:Act}(he:jW c w env.get a)(live:List Nat):jW c w (forget live env).get a:=fun k=>by
 rcases Wd live env k with h|h<;>rw[h]
 ·exact .any _
 ·exact he k
theorem CN{x:Nat}:∀ {l:List Nat},x∈dedup l→x∈l
 | [],h=>h
 | y::r,h=>by
  unfold dedup at h
  split at h
  ·exact aS _ (CN h)
  ·rcases au.1 h with rfl|h
   ·exact b7
   ·exact aS _ (CN h)
theorem G5{x:Nat}:∀ {l:List Nat},x∈l→x∈dedup l
 | y::r,h=>by
  unfold dedup
  split
  ·rename_i hy
   rcases au.1 h with rfl|h
   ·exact G5 hy
   ·exact G5 h
  ·rcases au.1 h with rfl|h
   ·exact b7
   ·exact aS _ (G5 h)
theorem IH:∀ (l:List Nat),(dedup l).Nodup
 | []=>List.nodup_nil
 | y::r=>by
  unfold dedup
  split
  ·exact IH r
  ·rename_i hn
   exact cB.2 ⟨fun h=>hn (CN h),IH r⟩
def Q1(h:(ks.map (·.1)).Nodup):wM ks:=by
 intro i j p q hp hq e
 have hi:(ks.map (·.1))[i]? = some p.1:=by simp[hp]
 have hj:(ks.map (·.1))[j]? = some q.1:=by simp[hq]
 have tv:=(af.1 hi).1
 have oG:=(af.1 hj).1
 rw[List.getElem?_eq_getElem tv]at hi
 rw[List.getElem?_eq_getElem oG]at hj
 simp only[ar]at hi hj
 exact(List.getElem_inj h).1 (by rw[hi,hj,e])
def Q4{n:Nat}{K:List Nat}(hK:∀ v∈K,n≤v)(hd:K.Nodup):wM (ij n K):=by
 apply Q1
 unfold ij
 simp only[List.map_append,bp,dO,List.map_id']
 rw[aZ]
 refine⟨List.nodup_range,hd,fun a ha b hb e=>?_⟩
 subst e
 have:=hK a hb
 simp at ha
 omega
def Q3{n:Nat}{K:List Nat}(v:Nat)(hv:v<n):((ij n K)[v]?).map (·.1)=some v:=by
 unfold ij
 rw[ag (by simpa using hv)]
 simp[hv]
def Pt{S:List Nat}:wM (kR H S):=by
 apply Q1
 unfold kR
 simp only[bp,dO,List.map_id']
 exact List.nodup_range
def Ps{S:List Nat}(v:Nat)(hv:v<H.length):((kR H S)[v]?).map (·.1)=some v:=by
 unfold kR
 simp[hv]
def Ks{S:List Nat}:(nV (kR H S) H).length=H.length:=by simp[nV,kR]
end
end Go.AL
namespace Go.AL
open Go
def GY:Operand→Bool
 | .const (.slice none 0 0)=>true
 | _=>false
def Aq(P:Program)(t:TypeId):Bool:=match P.underlying t with
 | some (.slice _)=>true
 | _=>false
def qf(P:Program)(G:GT)(o:Oper):Option gP:=
 match o.op with
 | .binOp .eql t x y _=>if Aq P t=true∧GY y=true then(cX G x).map (.nilS false)else none
 | .binOp .neq t x y _=>if Aq P t=true∧GY y=true then(cX G x).map (.nilS true)else none
 | .range t x=>match P.underlying t,cX G x with
  | some .string,some a=>some (.rangeS a)
  | some (.map _ _),some a=>some (.rangeM a)
  | _,_=>none
 | .next x true=>(cX G x).map .nextS
 | .next x false=>(cX G x).map .nextM
 | .entry x=>(cX G x).map .entry
 | .call c=>match c.callee,c.argTypes.toList,c.args.toList with
  | .builtin .cap,[t],[x]=>if Aq P t then(cX G x).map .capE else none
  | .builtin .clear,[t],[x]=>match P.underlying t with
   | some (.slice e)=>match pg P e,P.info? e,cX G x with
    | some z,some i,some a=>if z.length=i.size∧0<i.size then some (.clr i.size z a)else none
    | _,_,_=>none
   | _=>none
  | .builtin .append,[t,u],[x,y]=>match P.underlying t,P.underlying u with
   | some (.slice e),some (.int .i64)=>match pg P e,P.info? e,cX G x,cX G y with
    | some z,some i,some a,some b=>if z.length=i.size∧0<i.size then some (.appZ e i.size i.bytes z a b)else none
    | _,_,_,_=>none
   | _,_=>none
  | _,_,_=>none
 | _=>none
def IG(neg:Bool):D→Option D
 | .eG=>some (.b !neg)
 | .sl _ (_::_)=>some (.b neg)
 | .eF _ _ _ _ (_+1)=>some (.b neg)
 | _=>none
def Gu(t sz bytes:Nat)(z:List D)(x n:D)(vn:Nat):R:=
 match x,n with
 | .eG,.val (.int .i64 m)=>if 0<m∧pa (m*bytes) 140737488355328∧pa m 9223372036854775807 then some (.eF vn 0 sz 0 m.toNat,.new (.row t 0 (List.replicate m.toNat z).flatten))else none
 | _,_=>none
def Bp(sz:Nat)(z:List D)(x:D)(H:U):R:=
 match x with
 | .eG=>some (.any,.no)
 | .eF v g fV off len=>match rowAt H v g with
  | some (t,cs)=>if fV=sz∧(off+len)*sz≤cs.length then some (.any,.obj v (.row t g (cs.take (off*sz)++(List.replicate len z).flatten++cs.drop ((off+len)*sz))))else none
  | none=>none
 | _=>none
def Mq(x:D)(H:U):R:=
 match x with
 | .ptr v 0 0=>match H[v]? with
  | some (.qA s p)=>if p<s.size then some (.tup [.b true,.i p,.val (.int .i32 (Utf8.decode s p).1)],.obj v (.qA s (p+(Utf8.decode s p).2)))else some (.tup [.b false],.no)
  | _=>none
 | _=>none
def C6(x:D)(H:U)(vn:Nat):R:=
 match x with
 | .fE m=>match kX H m with
  | some (_,es)=>some (.ptr vn 0 0,.new (.jJ (.fE m) es.length []))
  | none=>none
 | _=>none
def G'(x:D)(H:U):Option D:=
 match x with
 | .ptr v 0 0=>match H[v]? with
  | some (.jJ (.fE m) since seen)=>match kX H m,seen.getLast? with
   | some (_,es),some i=>match es[i]? with
    | some (k,d)=>if es.length=since then some (.tup [.val k,d])else none
    | none=>none
   | _,_=>none
  | _=>none
 | _=>none
def l6(env:fQ)(H:U)(n:Nat):gP→R
 | .nilS neg x=>lift (IG neg (ev env x))
 | .capE x=>match ev env x with
  | .eG=>some (.i 0,.no)
  | _=>none
 | .appZ t sz bytes z x m=>Gu t sz bytes z (ev env x) (ev env m) n
 | .clr sz z x=>Bp sz z (ev env x) H
 | .rangeS x=>match ev env x with
  | .val (.string s)=>some (.ptr n 0 0,.new (.qA s 0))
  | _=>none
 | .nextS x=>Mq (ev env x) H
 | .rangeM x=>C6 (ev env x) H n
 | .entry x=>lift (G' (ev env x) H)
 | _=>none
def Jm:gP→Bool
 | .nilS .. | .capE .. | .appZ .. | .clr .. | .rangeS .. | .nextS .. | .rangeM .. | .nextM .. | .entry .. => true
 | _=>false
def agz{op:gP}(h:Jm op=true)(f:fQ)(H:U)(n:Nat):fG f H n op=none:=by
 cases op<;>first|(cases h;done)|rfl
def agA{op:gP}(h:Jm op=true)(f:fQ):jA f op=none:=by
 cases op<;>first|(cases h;done)|rfl
def J0{P:Program}{G:GT}{o:Oper}{io:gP}(h:qf P G o=some io):Jm io=true:=by
 unfold qf at h
 repeat' split at h
 all_goals first|(cases h;done)|(simp only[ai]at h;obtain⟨_,_,rfl⟩:=h;rfl)|(cases h;rfl)
section
variable{P:Program}{G:GT}{c:Ctx}{H:U}{w:World}{env:fQ}{a:Act}
abbrev KO(H:U)(al:Al)(d:D)(δ:Dl):iO:=fun d' H'=>d'=d∧H'=δ.app H al
def IE(h:e9 G c H w){al:Al}(gg:ma H al)(o:Obj)(ob:Ob)(hg:ob.gen=0)(ha:ob.alive=true)
  (gA:(∀ u d,eJ c w u d→eJ (c.set al.1 0 ⟨w.heap.size,0,0,false⟩) (w.alloc o) u d)→(w.alloc o).heap[w.heap.size]? = some o→gd (c.set al.1 0 ⟨w.heap.size,0,0,false⟩) (w.alloc o) (some ⟨w.heap.size,0,0,false⟩) ob) :
  e9 G (c.set al.1 0 ⟨w.heap.size,0,0,false⟩) (al.2 ob) (w.alloc o)∧eJ (c.set al.1 0 ⟨w.heap.size,0,0,false⟩) (w.alloc o) (.pointer (some ⟨w.heap.size,0,none⟩)) (.ptr al.1 0 0) ∧
   Step H.length c H w (c.set al.1 0 ⟨w.heap.size,0,0,false⟩) (al.2 ob) (w.alloc o):=by
 have hL:(⟨w.heap.size,0,0,false⟩:Loc).iM=false→w.heap.size≤(⟨w.heap.size,0,0,false⟩:Loc).b∧(⟨w.heap.size,0,0,false⟩:Loc).b<(w.alloc o).heap.size:=fun _=>⟨Nat.le_refl _,by simp⟩
 have ht:=(gg ob).rX
 have hs:=Jt h ht (jq.alloc w o) ⟨w.heap.size,0,0,false⟩ hL
 rw[hg]at hs
 have h1:=M5 h ht (jq.alloc w o) ⟨w.heap.size,0,0,false⟩ hL ha (by rw[hg];exact gA (fun u d hd=>hd.pd h.toHeapOK hs) (heap_alloc_new w o))
 rw[hg]at h1
 exact⟨h1,.ptr (c:=c.set al.1 0 ⟨w.heap.size,0,0,false⟩) al.1 0 0 ⟨w.heap.size,0,0,false⟩ (Ctx.rh _ _ _ _) rfl,hs⟩
def RZ(h:e9 G c H w){t:TypeId}(ht:Aq P t=true){neg:Bool}{x d:D}{u:Value}(hr:eJ c w u x)(ho:IG neg x=some d)(xo yo:Operand) :
  ∃ r,(do eqGuard (if neg then .neq else .eql) t xo yo u (.slice none 0 0);binOp (if neg then .neq else .eql) t u (.slice none 0 0)).run P w = .ok r w∧eJ c w r d:=by
 have LD:∃ e,P.underlying t=some (.slice e):=by
  unfold Aq at ht
  split at ht
  ·exact⟨_,by assumption⟩
  ·cases ht
 obtain⟨e,hu⟩:=LD
 have heq:∀ (n:Nat) (ad:Option Addr) (len cap:Nat),(Op.equalIn (n+1) t (.slice ad len cap) (.slice none 0 0)).run P w = .ok ad.isNone w:=by
  intro n ad len cap
  cases ad<;>simp[Op.equalIn,run_underlying hu]
 have gD:∀ ad len cap,Op.equal t (.slice ad len cap) (.slice none 0 0)=Op.equalIn (9999+1) t (.slice ad len cap) (.slice none 0 0):=fun _ _ _=>rfl
 have key:∀ (ad:Option Addr) (len cap:Nat),u = .slice ad len cap→(do eqGuard (if neg then .neq else .eql) t xo yo u (.slice none 0 0);binOp (if neg then .neq else .eql) t u (.slice none 0 0)).run P w = .ok (.bool (if neg then !ad.isNone else ad.isNone)) w:=by
  rintro ad len cap rfl
  have h1:=heq 9999 ad len cap
  cases neg<;>simp only[eqGuard,binOp,gD,bG,if_false,if_true,Sem.run_bind,Bool.not_true,Sem.run_pure,Result.andThen_ok,h1]
 unfold IG at ho
 split at ho
 ·cases ho
  cases hr
  exact⟨_,key none 0 0 rfl,by cases neg<;>exact .val _⟩
 ·cases ho
  cases hr with
  | sl ad len cap sz es g hlen js jO gH oo hc Cg=>
   have:ad≠none:=fun e=>by have:=oo e;simp at hlen;omega
   obtain⟨q,rfl⟩:=Option.ne_none_iff_exists'.1 this
   exact⟨_,key _ _ _ rfl,by cases neg<;>exact .val _⟩
 ·cases ho
  cases hr with
  | eF _ _ _ _ _ cap L eR hv js jO lY=>exact⟨_,key _ _ _ rfl,by cases neg<;>exact .val _⟩
 ·cases ho
def aeL(h:e9 G c H w){v g o:Nat}{t':TypeId}{cs xs:List D}(hv:H[v]? = some (.row t' g cs)){L:Loc}(eR:c.ι v g=some L)(gE:L.iM=false){vs:List Value}(hx:Cells c w vs xs)
  (lV:o+xs.length≤cs.length):∃ w',(storeCells ⟨L.b,L.base+o,none⟩ vs).run P w = .ok () w'∧e9 G c (H.set v (.row t' g (cs.take o++xs++cs.drop (o+xs.length)))) w'∧Step H.length c H w c (H.set v (.row t' g (cs.take o++xs++cs.drop (o+xs.length)))) w':=by
 obtain⟨arr,h1,h2,h3,h4⟩:=wA h hv eR gE
 have oK:vs.length=xs.length:=hx.len
 have eX:=run_storeCells_at P L.b (L.base+o) t' vs 0 arr w h1 (by simp;omega) hx.one
 simp only[cc]at eX
 have hw:=DJ h hv eR gE h1 (arr.toList.take (L.base+o)++vs++arr.toList.drop (L.base+o+vs.length)).toArray
  (by simp;omega) h2 (cs.take o++xs++cs.drop (o+xs.length)) (by simp;omega) (fun i d hd=>by
   have H8:=h4.p7 hx o
   obtain⟨y,hy,h5,h6⟩:=H8.get hd
   refine⟨y,?_,h5,h6⟩
   rw[← hy]
   simp only[cT]
   have iR:(List.take (L.base+o) arr.toList).length=L.base+o:=by simp;omega
   have iA:(List.take o (List.take cs.length (List.drop L.base arr.toList))).length=o:=by simp;omega
   by_cases c1:i<o
   ·rw[ag (by simp;omega),ag (by rw[iR];omega),ag (by simp;omega),ag (by rw[iA];omega)]
    simp only[aA,aD]
    rw[if_pos (by omega),if_pos c1,if_pos (by omega)]
   ·by_cases c2:i<o+xs.length
    ·rw[ag (by simp;omega),ak (by rw[iR];omega),ag (by simp;omega),ak (by rw[iA];omega),iR,iA]
     congr 1
     omega
    ·have nO:i<cs.length:=by have:=(af.1 hd).1;simp at this;omega
     rw[ak (by simp;omega),ak (by simp;omega)]
     simp only[aD,aA,ay,iR,iA,oK]
     rw[if_pos (by omega)]
     congr 1
     omega)
 exact⟨_,eX,hw.1,hw.2⟩
def aeM(h:e9 G c H w){al:Al}{t e ty:TypeId}{i:TypeInfo}{z:List D}(hu:P.underlying t=some (.slice e))(hi:P.info? e=some i)(hz:pg P e=some z)(uU:z.length=i.size)(jm:0<i.size)
  {x d:D} {δ:Dl} {u:Value} (hr:eJ c w u x) (ho:Bp i.size z x H=some (d,δ)):∃ w',(Builtin.clear_ #[t] ty #[u]).run P w = .ok (.tuple #[]) w'∧iv G c H w (KO H al d δ) (.tuple #[]) w':=by
 unfold Bp at ho
 split at ho
 ·cases ho
  cases hr
  exact⟨w,by simp[Builtin.clear_,run_underlying hu],_,_,c,⟨rfl,rfl⟩,h,.any _,Step.refl _ _ _ _⟩
 ·rename_i v g fV off len
  split at ho
  ·rename_i t' cs gq
   split at ho
   ·rename_i iG
    obtain⟨rfl,lV⟩:=iG
    cases ho
    have hv:=rW gq
    dsimp only at hv
    obtain⟨zv,uV,Cq,qT⟩:=wC hz w
    have tD:zv.cells.size=i.size:=by have:=(qT c w).len;simp at this;omega
    have HC:(Dl.obj v (.row t' g (cs.take (off*i.size)++(List.replicate len z).flatten++cs.drop ((off+len)*i.size)))).app H al=H.set v (.row t' g (cs.take (off*i.size)++(List.replicate len z).flatten++cs.drop ((off+len)*i.size))):=rfl
    have qo:(List.replicate len z).flatten.length=len*i.size:=by simp[uU]
    have tC:(.row t' g (cs.take (off*i.size)++(List.replicate 0 z).flatten++cs.drop ((off+0)*i.size)))=Ob.row t' g cs:=by simp
    have mA:H.set v (.row t' g cs)=H:=by
     have fq:=(af.1 hv).1
     have hJ:=(af.1 hv).2
     rw[← hJ];exact List.set_getElem_self fq
    cases hr with
    | eF _ _ _ _ _ cap L eR gE js jO lY=>
     by_cases hn:len=0
     ·subst hn
      refine⟨w,by simp[Builtin.clear_,run_underlying hu],_,_,c,⟨rfl,rfl⟩,?_,.any _,?_⟩
      ·rw[HC,tC,mA];exact h
      ·rw[HC,tC,mA];exact Step.refl _ _ _ _
     ·have oX:Cells c w (Builtin.zeroCells zv.cells len).toList (List.replicate len z).flatten:=by
       have h1:(Builtin.zeroCells zv.cells len).toList=(List.replicate len zv.cells.toList).flatten:=by
        unfold Builtin.zeroCells
        exact IV zv.cells len
       rw[h1]
       exact Hl _ _ qT len
      obtain⟨w',k1,k2,k3⟩:=aeL (P:=P) (o:=off*i.size) h hv eR gE oX (by rw[qo,← bg];exact lV)
      rw[qo,← bg]at k2 k3
      refine⟨w',?_,_,_,c,⟨rfl,rfl⟩,k2,.any _,k3⟩
      obtain⟨am1,rfl⟩:=Nat.exists_eq_succ_of_ne_zero hn
      simp[Builtin.clear_,run_underlying hu,uV,k1]
    | mm _ _ _ _ L eR ad=>
     refine⟨w,by cases ad<;>simp[Builtin.clear_,run_underlying hu],_,_,c,⟨rfl,rfl⟩,?_,.any _,?_⟩
     ·rw[HC,tC,mA];exact h
     ·rw[HC,tC,mA];exact Step.refl _ _ _ _
   ·cases ho
  ·cases ho
 ·cases ho
def aeE(h:e9 G c H w){al:Al}(gg:ma H al){t u ty e:TypeId}{i:TypeInfo}{z:List D}(ht:P.underlying t=some (.slice e))(hu:P.underlying u=some (.int .i64))(hi:P.info? e=some i)(hz:pg P e=some z)(uU:z.length=i.size)(jm:0<i.size)
  {x y d:D} {δ:Dl} {ux uy:Value} (h1:eJ c w ux x) (h2:eJ c w uy y) (ho:Gu e i.size i.bytes z x y al.1=some (d,δ)) :
  ∃ r w',(Builtin.append_ #[t,u] ty #[ux,uy]).run P w = .ok r w'∧iv G c H w (KO H al d δ) r w':=by
 unfold Gu at ho
 split at ho
 ·rename_i m
  split at ho
  ·rename_i iG
   cases ho
   cases h1
   cases h2
   obtain⟨zv,uV,Cq,qT⟩:=wC hz w
   have Cr:i.zero=some zv:=by simpa[hi]using Cq
   have tD:zv.cells.size=i.size:=by have:=(qT c w).len;simp at this;omega
   obtain⟨n,rfl⟩:∃ n:Nat,m=n:=⟨m.toNat,by omega⟩
   obtain⟨XV,oE,zt⟩:=iG
   simp only[pa]at oE zt
   have Qg:0<n:=by omega
   have W5:n*i.bytes≤140737488355328:=by
    have h1:((n*i.bytes:Nat):Int)≤140737488355328:=by rw[Int.natCast_mul];exact oE
    omega
   have PF:n≤9223372036854775807:=by omega
   have uK:=grownCap_ge w n 0 e
   have om:=grownCap_le_maxLen w n 0 e (by unfold maxLen;omega)
   have wn:IntKind.i64.wrap (n:Int)=n:=wrap_i64 (by unfold mK;omega)
   have ig:(Builtin.append_ #[t,u] ty #[.slice none 0 0,.int .i64 n]).run P w = .ok (.slice (some ⟨w.heap.size,0,none⟩) n (grownCap w n 0 e))
     (w.drew.alloc (.cells (Builtin.zeroCells zv.cells n++Builtin.zeroCells zv.cells (grownCap w n 0 e-n)) e)):=by
    have Yb:¬ (n=0):=by omega
    have W0:∀ w:World,(asInt (.int .i64 (n:Int))).run P w = .ok (n:Int) w:=fun w=>by simp[asInt,asIntOf]
    have hle:¬ ((n:Int)≤0):=by omega
    have mz:max (n:Int) 0=n:=by omega
    have hnt:(n:Int).toNat=n:=by omega
    have gH:¬ (i.size=0):=by omega
    have X3:¬ ((n:Int)<0):=by omega
    have WD:¬ (281474976710656<(n:Int)*(i.bytes:Int)):=by have:(n:Int)*(i.bytes:Int)≤140737488355328:=oE;omega
    have KD:¬ (281474976710656<Builtin.nextslicecap n 0*i.bytes):=by have:=growslice_fits (old:=0) Qg W5;omega
    have WG:¬ (9223372036854775807<(n:Int)):=by omega
    simp[Builtin.append_,run_underlying ht,run_underlying hu,sizeOf,typeInfo,zeroValue,hi,Cr,W0,wn,X3,WD,Yb,gH,KD,WG,hle,mz,Question.forced,newRow,grownCap,run_firstCells_none]
    intro h0
    exact absurd h0 (Nat.ne_of_gt (Nat.mul_pos Qg jm))
   refine⟨_,_,ig,?_⟩
   have oX:Cells c w (Builtin.zeroCells zv.cells n).toList (List.replicate n z).flatten:=by
    have h1:(Builtin.zeroCells zv.cells n).toList=(List.replicate n zv.cells.toList).flatten:=by
     unfold Builtin.zeroCells
     exact IV zv.cells n
    rw[h1]
    exact Hl _ _ qT n
   have gH:(Builtin.zeroCells zv.cells n++Builtin.zeroCells zv.cells (grownCap w n 0 e-n)).size=grownCap w n 0 e*i.size:=by
    simp only[cE,size_zeroCells,tD,← bg]
    congr 1;omega
   obtain⟨L,e1,e2,e3,e4,e5,e6⟩:=CS h w.drew (jq.drew w) e _ (List.replicate n z).flatten (Builtin.zeroCells zv.cells n).size (Builtin.zeroCells zv.cells n++Builtin.zeroCells zv.cells (grownCap w n 0 e-n)) (gg _).rX oX (by
    simp only[c7]
    exact List.take_left' (by simp)) (by simp only[cE];omega)
   have hp:=IP (c:=c) (w:=w.drew.alloc (.cells (Builtin.zeroCells zv.cells n++Builtin.zeroCells zv.cells (grownCap w n 0 e-n)) e)) e1 e3 al.1 0 i.size n (grownCap w n 0 e) (by rw[e4,gH]) uK om
   rw[e2]at hp
   exact⟨_,_,_,⟨rfl,rfl⟩,e5,hp,e6⟩
  ·cases ho
 ·cases ho
def ae3(h:e9 G c H w){al:Al}{x d:D}{δ:Dl}{u:Value}{ty:TypeId}(hr:eJ c w u x)(ho:Mq x H=some (d,δ)):∃ r w',(Instr.next u true ty).run P w = .ok r w'∧iv G c H w (KO H al d δ) r w':=by
 unfold Mq at ho
 split at ho
 ·rename_i v
  split at ho
  ·rename_i s p hv
   cases hr with
   | ptr _ _ _ L eR gE=>
    have gA:=h.ob v _ hv
    simp only[Ob.gen]at gA
    rw[eR]at gA
    simp only[gd]at gA
    obtain⟨_,vS,hblk⟩:=gA
    have fq:=(aM.1 hblk).1
    rw[vS]
    by_cases hp:p<s.size
    ·rw[if_pos hp]at ho
     cases ho
     obtain⟨m1,m2⟩:=DI h hv rfl rfl (ob':=.qA s (p+(Utf8.decode s p).2)) rfl eR gE (.stringIter s (p+(Utf8.decode s p).2)) (fun w' sE _=>by
      simp only[gd];exact⟨gE,vS,sE⟩)
     refine⟨.tuple #[.bool true,goInt p,.int .i32 (Utf8.decode s p).1],_,?_,_,_,c,⟨rfl,rfl⟩,m1,?_,m2⟩
     ·simp[Instr.next,getObj,setObj,Sem.run,hblk,hp]
     ·refine .tup [.bool true,goInt p,.int .i32 (Utf8.decode s p).1] _ rfl fun i v d hv hd=>?_
      match i,hv,hd with
      | 0,hv,hd=>cases hv;cases hd;exact .val _
      | 1,hv,hd=>cases hv;cases hd;exact .val _
      | 2,hv,hd=>cases hv;cases hd;exact .val _
    ·rw[if_neg hp]at ho
     cases ho
     refine⟨.tuple #[.bool false],w,?_,_,_,c,⟨rfl,rfl⟩,h,?_,Step.refl _ _ _ _⟩
     ·simp[Instr.next,getObj,Sem.run,hblk,hp]
     ·refine .tup [.bool false] _ rfl fun i v d hv hd=>?_
      match i,hv,hd with
      | 0,hv,hd=>cases hv;cases hd;exact .val _
  ·cases ho
 ·cases ho
def aeP(h:e9 G c H w){x d:D}{u:Value}(hr:eJ c w u x)(ho:G' x H=some d):∃ r,(Instr.entry u).run P w = .ok r w∧eJ c w r d:=by
 unfold G' at ho
 split at ho
 ·rename_i v
  split at ho
  ·rename_i m since seen hv
   split at ho
   ·rename_i kk es i hm xL
    split at ho
    ·rename_i k d0 PT
     split at ho
     ·rename_i hlen
      cases ho
      have xO:=wm hm
      dsimp only at xO
      cases hr with
      | ptr _ _ _ L eR gE=>
       have gA:=h.ob v _ hv
       simp only[Ob.gen]at gA
       rw[eR]at gA
       simp only[gd]at gA
       obtain⟨_,vS,bm,zS,hblk⟩:=gA
       cases zS with
       | fE _ Lm xW Ia=>
        have qp:=h.ob m _ xO
        simp only[Ob.gen]at qp
        rw[xW]at qp
        simp only[gd]at qp
        obtain⟨_,_,arr,clock,B7,gH,kS,BT⟩:=qp
        have hi:i<arr.size:=by rw[gH];exact(af.1 PT).1
        have WW:arr[i]? = some arr[i]:=by simp[hi]
        obtain⟨q1,q2,q3⟩:=kS i _ _ WW PT
        have W1:seen.toArray.back? = some i:=by simpa[Array.back?_eq_getElem?,List.getLast?_eq_getElem?]using xL
        have Xo:arr.find? (fun e=>e.born == i)=some arr[i]:=by
         rw[Array.find?_eq_some_iff_getElem]
         refine⟨by simp[q3],i,hi,rfl,fun j hj=>?_⟩
         have oG:j<es.length:=by rw[← gH];omega
         have:=(kS j arr[j] es[j] (by simp) (by simp[oG])).2.2
         simp[this]
         try omega
        refine⟨.tuple #[k,arr[i].val],?_,?_⟩
        ·rw[vS]
         have hc:clock=since:=by rw[BT,hlen]
         subst hc
         simp only[aU]
         simp only[Instr.entry,getObj,Sem.run_bind,Sem.run,hblk,Result.andThen_ok,W1,B7,Xo]
         simp[q1]
        ·refine .tup [k,arr[i].val] _ rfl fun j v d hv hd=>?_
         match j,hv,hd with
         | 0,hv,hd=>cases hv;cases hd;exact .val _
         | 1,hv,hd=>cases hv;cases hd;exact q2
     ·cases ho
    ·cases ho
   ·cases ho
  ·cases ho
 ·cases ho
def ae6(h:e9 G c H w){al:Al}(gg:ma H al){t:TypeId}{k e:TypeId}(hu:P.underlying t=some (.map k e)){x d:D}{δ:Dl}{u:Value}(hr:eJ c w u x)(ho:C6 x H al.1=some (d,δ)) :
  ∃ r w',(Instr.range t u).run P w = .ok r w'∧iv G c H w (KO H al d δ) r w':=by
 unfold C6 at ho
 split at ho
 ·rename_i m
  split at ho
  ·rename_i kk es hm
   cases ho
   have xO:=wm hm
   dsimp only at xO
   cases hr with
   | fE _ Lm xW Ia=>
    have qp:=h.ob m _ xO
    simp only[Ob.gen]at qp
    rw[xW]at qp
    simp only[gd]at qp
    obtain⟨_,_,arr,clock,B7,gH,kS,BT⟩:=qp
    obtain⟨k1,k2,k3⟩:=IE h gg (.mapIter (some Lm.b) clock #[] clock) (.jJ (.fE m) es.length []) rfl rfl (fun qS hb=>by
     simp only[gd]
     refine⟨trivial,trivial,Lm.b,qS _ _ (.fE m Lm xW Ia),?_⟩
     rw[← BT];exact hb)
    exact⟨_,_,run_range_map w t k e Lm.b arr clock hu B7,_,_,_,⟨rfl,rfl⟩,k1,k2,k3⟩
  ·cases ho
 ·cases ho
def agn(h:e9 G c H w)(he:jW c w env a){al:Al}(gg:ma H al){o:Oper}{io:gP}(hc:qf P G o=some io){d:D}{δ:Dl}(hk:l6 env H al.1 io=some (d,δ)) :
  ∃ v w',y5 ((execOp a.eval o).run P w) v w'∧iv G c H w (KO H al d δ) v w':=by
 have plain:∀ {v:Value} {d:D},eJ c w v d→iv G c H w (KO H al d .no) v w:=fun hr=>⟨_,_,c,⟨rfl,rfl⟩,h,hr,Step.refl _ _ _ _⟩
 unfold qf at hc
 split at hc
 ·rename_i t x y ty ho
  split at hc
  ·rename_i iG
   simp only[ai]at hc
   obtain⟨X,hX,rfl⟩:=hc
   have hy:y = .const (.slice none 0 0):=by
    have:=iG.2
    unfold GY at this
    split at this
    ·rfl
    ·cases this
   subst hy
   obtain⟨oH,rfl⟩:=lB hk
   obtain⟨r,h1,h2⟩:=RZ h iG.1 (gX h he hX) oH x (.const (.slice none 0 0))
   exact⟨r,w,by simp only[execOp,ho];exact iX h1,plain h2⟩
  ·cases hc
 ·rename_i t x y ty ho
  split at hc
  ·rename_i iG
   simp only[ai]at hc
   obtain⟨X,hX,rfl⟩:=hc
   have hy:y = .const (.slice none 0 0):=by
    have:=iG.2
    unfold GY at this
    split at this
    ·rfl
    ·cases this
   subst hy
   obtain⟨oH,rfl⟩:=lB hk
   obtain⟨r,h1,h2⟩:=RZ h iG.1 (gX h he hX) oH x (.const (.slice none 0 0))
   exact⟨r,w,by simp only[execOp,ho];exact iX h1,plain h2⟩
  ·cases hc
 ·rename_i t x ho
  split at hc
  ·rename_i X hu hX
   cases hc
   simp only[l6]at hk
   split at hk
   ·rename_i s hs
    cases hk
    have hr:=gX h he hX
    rw[hs]at hr
    generalize LK:a.eval x=u at hr
    cases hr
    obtain⟨k1,k2,k3⟩:=IE h gg (.stringIter s 0) (.qA s 0) rfl rfl (fun _ hb=>by simp only[gd];exact⟨trivial,trivial,hb⟩)
    refine⟨_,_,by simp only[execOp,ho,LK];exact iX (v:=.pointer (some ⟨w.heap.size,0,none⟩)) (w':=w.alloc (.stringIter s 0)) (by simp[Instr.range,run_underlying hu]),_,_,_,⟨rfl,rfl⟩,k1,k2,k3⟩
   ·cases hk
  ·rename_i k e X hu hX
   cases hc
   obtain⟨r,w',h1,h2⟩:=ae6 (P:=P) h gg hu (gX h he hX) hk
   exact⟨r,w',by simp only[execOp,ho];exact iX h1,h2⟩
  ·cases hc
 ·rename_i x ho
  simp only[ai]at hc
  obtain⟨X,hX,rfl⟩:=hc
  obtain⟨r,w',h1,h2⟩:=ae3 (P:=P) (ty:=o.type) h (gX h he hX) hk
  exact⟨r,w',by simp only[execOp,ho];exact iX h1,h2⟩
 ·simp only[ai]at hc
  obtain⟨X,hX,rfl⟩:=hc
  cases hk
 ·rename_i x ho
  simp only[ai]at hc
  obtain⟨X,hX,rfl⟩:=hc
  obtain⟨oH,rfl⟩:=lB hk
  obtain⟨r,h1,h2⟩:=aeP (P:=P) h (gX h he hX) oH
  exact⟨r,w,by simp only[execOp,ho];exact iX h1,plain h2⟩
 ·rename_i cl ho
  split at hc
  ·rename_i t x iT lT qK
   split at hc
   ·rename_i eX
    simp only[ai]at hc
    obtain⟨X,hX,rfl⟩:=hc
    have qL:cl.argTypes = #[t]:=by rw[← bH (xs:=cl.argTypes),lT]
    have BQ:cl.args = #[x]:=by rw[← bH (xs:=cl.args),qK]
    have hr:=gX h he hX
    simp only[l6]at hk
    split at hk
    ·rename_i oY
     cases hk
     rw[oY]at hr
     generalize LK:a.eval x=u at hr
     cases hr
     have LD:∃ e,P.underlying t=some (.slice e):=by
      unfold Aq at eX
      split at eX
      ·exact⟨_,by assumption⟩
      ·cases eX
     obtain⟨e,hu⟩:=LD
     refine⟨.int .i64 0,w,by rw[tU ho iT,qL,BQ];exact iX (by simp[LK,Builtin.cap_,run_underlying hu,goInt]),plain (.val _)⟩
    ·cases hk
   ·cases hc
  ·rename_i t x iT lT qK
   have qL:cl.argTypes = #[t]:=by rw[← bH (xs:=cl.argTypes),lT]
   have BQ:cl.args = #[x]:=by rw[← bH (xs:=cl.args),qK]
   split at hc
   ·rename_i e hu
    split at hc
    ·rename_i z i X hz hi hX
     split at hc
     ·rename_i iG
      cases hc
      obtain⟨w',h1,h2⟩:=aeM (P:=P) (al:=al) (ty:=o.type) h hu hi hz iG.1 iG.2 (gX h he hX) hk
      exact⟨_,w',by rw[tU ho iT,qL,BQ];exact iX (by simpa using h1),h2⟩
     ·cases hc
    ·cases hc
   ·cases hc
  ·rename_i t u x y iT lT qK
   have qL:cl.argTypes = #[t,u]:=by rw[← bH (xs:=cl.argTypes),lT]
   have BQ:cl.args = #[x,y]:=by rw[← bH (xs:=cl.args),qK]
   split at hc
   ·rename_i e hu YN
    split at hc
    ·rename_i z i X Y hz hi hX hY
     split at hc
     ·rename_i iG
      cases hc
      obtain⟨r,w',h1,h2⟩:=aeE (P:=P) (ty:=o.type) h gg hu YN hi hz iG.1 iG.2 (gX h he hX) (gX h he hY) hk
      exact⟨r,w',by rw[tU ho iT,qL,BQ];exact iX (by simpa using h1),h2⟩
     ·cases hc
    ·cases hc
   ·cases hc
  ·cases hc
 ·cases hc
end
end Go.AL
namespace Go.AL
open Go
abbrev FW(ro:Option Nat):Fence:={ Fence.wide with round:=ro }
def Bl{ro:Option Nat}{n:Nat}{P:Program}{f:FuncId}{args:Array Value}{w:World}{R:Ending→World→Prop}:CallsIn (FW ro) n P f args w R↔Calls P f args w R:=
 callsIn_wide (n:=n)
inductive kD(c:Ctx):List Nat→List Deferred→Prop
 | nil:kD c [] []
 | cons {v:Nat} {vs:List Nat} {ds:List Deferred} (L:Loc) (h1:c.ι v 0=some L) (h2:L.iM=false) (h:kD c vs ds):kD c (v::vs) ({ target:=.collected L.b,args:=#[] }::ds)
def kD.mono{c c':Ctx}(eR:∀ v L,c.ι v 0=some L→c'.ι v 0=some L){vs:List Nat}{ds:List Deferred}(h:kD c vs ds):kD c' vs ds:=by
 induction h with
 | nil=>exact .nil
 | cons L h1 h2 _ ih=>exact .cons L (eR _ _ h1) h2 ih
structure jX(G:GT)(N:Nat)(c:Ctx)(w:World)(s:St)(a:Act):Prop where
 eM:e9 G c s.H w
 env:jW c w s.env.get a
 size:N≤a.tmps.size
 marks:kD c s.marks a.defers
def qH(N:Nat):Option Tmp→Bool
 | some d=>decide (d<N)
 | none=>true
def JZ(P:Program)(G:GT)(o:Oper):Option gP:=match mr P G o with
 | some op=>some op
 | none=>qf P G o
def tg(P:Program)(G:GT)(N:Nat)(ops:Array Oper)(o:Oper):Option eT:=
 match JZ P G o with
 | none=>none
 | some op=>if qH N o.dst=true then(match o.guard with
   | none=>some ⟨o.dst,op,none⟩
   | some (j,want)=>match (ops[j]?).bind (·.dst)with
    | some t=>some ⟨o.dst,op,some (t,want)⟩
    | none=>none)else none
def n5(P:Program)(G:GT)(N:Nat)(ops:Array Oper):List Oper→Option (List eT)
 | []=>some []
 | o::r=>match tg P G N ops o,n5 P G N ops r with
  | some e,some l=>some (e::l)
  | _,_=>none
section
variable{P:Program}{G:GT}{c:Ctx}{w:World}{env:fQ}{a:Act}{N:Nat}
def aft{env:Env}{a:Act}{c:Ctx}{w:World}(he:jW c w env.get a)(hN:N≤a.tmps.size){dst:Option Tmp}(hd:qH N dst=true){v:Value}{d:D}(hr:eJ c w v d) :
  jW c w (put env dst d).get (a.put dst v):=by
 cases dst with
 | none=>exact he
 | some t=>
  have ht:t<a.tmps.size:=aK (by simpa[qH]using hd) hN
  intro k
  simp only[put,Env.tj,Act.put]
  split
  ·rename_i e
   subst e
   have:(a.tmps.setIfInBounds t v).getD t undef=v:=by simp[Array.getD,ht]
   rw[this];exact hr
  ·rename_i e
   have:(a.tmps.setIfInBounds t v).getD k undef=a.tmps.getD k undef:=by
    simp only[bN,bF e]
   rw[this];exact he k
def Sj{a:Act}{dst:Option Tmp}{v:Value}:(a.put dst v).tmps.size=a.tmps.size:=by
 cases dst<;>simp[Act.put]
def put_defers{a:Act}{dst:Option Tmp}{v:Value}:(a.put dst v).defers=a.defers:=by
 cases dst<;>rfl
def jW.carry{c c':Ctx}{w w':World}(h:∀ v d,eJ c w v d→eJ c' w' v d)(he:jW c w env a):jW c' w' env a:=fun k=>h _ _ (he k)
def jX.next{c':Ctx}{w':World}{H':U}{s:St}(hs:jX G N c w s a)(eM:e9 G c' H' w')(eX:Step s.H.length c s.H w c' H' w'){dst:Option Tmp}(hd:qH N dst=true)
  {v:Value} {d:D} (hr:eJ c' w' v d):jX G N c' w' { s with env:=put s.env dst d,H:=H' } (a.put dst v) where
 eM:=eM
 env:=aft (hs.env.carry fun _ _ h=>h.pd hs.eM.toHeapOK eX) hs.size hd hr
 size:=by rw[Sj];exact hs.size
 marks:=by
  rw[put_defers]
  refine hs.marks.mono fun v L h=>eX.old v 0 L ?_ h
  rcases bh v s.H.length with h'|h'
  ·exact h'
  ·rw[hs.eM.out v 0 h']at h;cases h
theorem rY(he:jW c w env a){ops:Array Oper}{o:Oper}{g:Option (Nat×Bool)}(hg:match o.guard with
   | none=>g=none
   | some (j,want)=>∃ t,(ops[j]?).bind (·.dst)=some t∧g=some (t,want)) {b:Bool} (h:guardOf env g=some b):Region.wanted o (yielded ops a.tmps)=b:=by
 unfold Region.wanted
 split at hg
 ·rename_i zD
  subst hg
  simp only[guardOf,ar]at h
  simp[zD,h]
 ·rename_i j want zD
  obtain⟨t,ht,rfl⟩:=hg
  simp only[guardOf]at h
  split at h
  ·rename_i x hx
   cases h
   have hr:=he t
   rw[hx]at hr
   generalize hv:a.tmps.getD t undef=v at hr
   cases hr
   have hJ:a.tmps[t]? = some (.bool x):=by
    rw[bN]at hv
    cases hq:a.tmps[t]? with
    | none=>rw[hq]at hv;simp[undef]at hv
    | some q=>rw[hq]at hv;simpa using hv
   simp only[zD,yielded,ht,Option.bind_some,hJ]
   cases x<;>cases want<;>rfl
  ·rename_i vs hx
   cases h
   have hr:=he t
   rw[hx]at hr
   generalize hv:a.tmps.getD t undef=v at hr
   cases hr
   have hJ:a.tmps[t]? = some (.tuple vs)∨a.tmps[t]? = none:=by
    rw[bN]at hv
    cases hq:a.tmps[t]? with
    | none=>exact .inr rfl
    | some q=>rw[hq]at hv;exact .inl (by simpa using hv)
   rcases hJ with hJ|hJ<;>simp only[zD,yielded,ht,Option.bind_some,hJ]<;>cases want<;>rfl
  ·cases h
def OE{o:Oper}{op:gP}(h:JZ P G o=some op):mr P G o=some op∨qf P G o=some op:=by
 unfold JZ at h
 split at h
 ·cases h;exact .inl (by assumption)
 ·exact .inr h
def OB{o:Oper}{io:gP}(hc:mr P G o=some io∨qf P G o=some io){f:fQ}{H:U}{n:Nat}{r:D×Dl}(h:fG f H n io=some r):mr P G o=some io:=by
 refine hc.resolve_right fun h2=>?_
 rw[agz (J0 h2)]at h
 cases h
def Br{o:Oper}{io:gP}(hc:mr P G o=some io∨qf P G o=some io){f:fQ}{r:FuncId×List D}(h:jA f io=some r):mr P G o=some io:=by
 refine hc.resolve_right fun h2=>?_
 rw[agA (J0 h2)]at h
 cases h
def vG{ops:Array Oper}{o:Oper}{e:eT}(h:tg P G N ops o=some e) :
  (mr P G o=some e.op∨qf P G o=some e.op)∧e.dst=o.dst∧(qH N o.dst=true)∧(match o.guard with
   | none=>e.guard=none
   | some (j,want)=>∃ t,(ops[j]?).bind (·.dst)=some t∧e.guard=some (t,want)):=by
 unfold tg at h
 split at h
 ·cases h
 ·rename_i op gD
  split at h
  ·rename_i hd
   split at h
   ·rename_i hg
    cases h
    exact⟨OE gD,rfl,hd,by simp[hg]⟩
   ·rename_i j want hg
    split at h
    ·rename_i t ht
     cases h
     exact⟨OE gD,rfl,hd,t,ht,rfl⟩
    ·cases h
  ·cases h
def yd{o:Oper}{io:gP}(h:mr P G o=some io):∀ c,o.op≠.defer c:=by
 intro c hc
 simp[mr,hc]at h
def RK{o:Oper}{io:gP}(h:qf P G o=some io):∀ c,o.op≠.defer c:=by
 intro c hc
 simp[qf,hc]at h
def ag4{ro:Option Nat}{n:Nat}{o:Oper}{s:St}{io:gP}{d:D}{δ:Dl}{next:Act→World→Prop}{Q:Exit→Act→World→Prop}(hs:jX G N c w s a)(hc:qf P G o=some io)
  (hd:qH N o.dst=true) {al:Al} (gg:ma s.H al) (h:l6 s.env.get s.H al.1 io=some (d,δ))
  (k:∀ c' w' a',jX G N c' w' { s with env:=put s.env o.dst d,H:=δ.app s.H al } a'→Step s.H.length c s.H w c' (δ.app s.H al) w'→next a' w'):o.wpIn (FW ro) n P a w next Q:=by
 obtain⟨v,w',hy,d',H',c',⟨rfl,rfl⟩,eM,hr,eX⟩:=agn (P:=P) hs.eM hs.env gg hc h
 refine⟨fun _ _=>trivial,?_⟩
 rw[Oper.semAt_plain (FW ro) a.eval o (RK hc)]
 have hn:=k c' w' (a.put o.dst v) (hs.next eM eX hd hr) eX
 rcases hy with hy|⟨hy,rfl⟩
 ·rw[hy];exact hn
 ·rw[hy];exact hn
def ag1{ro:Option Nat}{n:Nat}{o:Oper}{s:St}{x:X}{next:Act→World→Prop}{Q:Exit→Act→World→Prop}(hs:jX G N c w s a)(hc:qf P G o=some (.nextM x))
  (hd:qH N o.dst=true) {v m since:Nat} {seen:List Nat} {kk:KK} {es:List (Value×D)} (hx:ev s.env.get x = .ptr v 0 0) (hv:s.H[v]? = some (.jJ (.fE m) since seen)) (hm:s.H[m]? = some (.map kk es)) (pV:es.length=since)
  (k0:(∀ i,i<es.length→i∈seen)→∀ c' w' a',jX G N c' w' { s with env:=put s.env o.dst (.tup [.b false]) } a'→Step s.H.length c s.H w c' s.H w'→next a' w')
  (k1:∀ i k d,es[i]? = some (k,d)→i ∉ seen→∀ c' w' a',jX G N c' w' { s with env:=put s.env o.dst (.tup [.b true,.val k,d]),H:=s.H.set v (.jJ (.fE m) since (seen ++ [i])) } a' →
   Step s.H.length c s.H w c' (s.H.set v (.jJ (.fE m) since (seen ++ [i]))) w'→next a' w'):o.wpIn (FW ro) n P a w next Q:=by
 have gD:∃ y,o.op = .next y false∧cX G y=some x:=by
  unfold qf at hc
  repeat' split at hc
  all_goals first|(cases hc;done)|(simp only[ai]at hc;obtain⟨_,_,hh⟩:=hc;cases hh;done)|skip
  simp only[ai]at hc
  obtain⟨X,hX,hh⟩:=hc
  cases hh
  exact⟨_,by assumption,hX⟩
 obtain⟨y,ho,hX⟩:=gD
 have hr:=gX hs.eM hs.env hX
 rw[hx]at hr
 generalize hu:a.eval y=u at hr
 cases hr with
 | ptr _ _ _ L eR gE=>
  have gA:=hs.eM.ob v _ hv
  simp only[Ob.gen]at gA
  rw[eR]at gA
  simp only[gd]at gA
  obtain⟨_,vS,bm,zS,hblk⟩:=gA
  cases zS with
  | fE _ Lm xW Ia=>
   have qp:=hs.eM.ob m _ hm
   simp only[Ob.gen]at qp
   rw[xW]at qp
   simp only[gd]at qp
   obtain⟨_,_,arr,clock,B7,gH,kS,BT⟩:=qp
   have pA:clock=since:=by rw[BT,pV]
   subst pA
   refine⟨fun _ _=>trivial,?_⟩
   rw[Oper.semAt_plain (FW ro) a.eval o (RK hc)]
   have KU:∀ e∈arr.toList,e.born<clock:=by
    intro e he
    obtain⟨i,hi⟩:=aF.1 he
    have tv:i<es.length:=by rw[← gH];have:=(af.1 hi).1;simpa using this
    have:=(kS i e es[i] (by simpa using hi) (by simp[tv])).2.2
    omega
   have QG:=next_test_false seen.toArray arr clock clock KU (Nat.le_refl _)
   have hold:(leftOf arr seen.toArray).filter (fun e=>decide (e.born<clock))=leftOf arr seen.toArray:=by
    apply Array.filter_eq_self.2
    intro e he
    simp only[decide_eq_true_eq]
    exact KU e (by simpa using (dw.1 he).1)
   have lW:(leftOf arr seen.toArray).filter (fun e=>decide (e.born≥clock)) = #[]:=by
    apply Array.filter_eq_empty_iff.2
    intro e he
    have:=KU e (by simpa using (dw.1 he).1)
    simp;omega
   have P2:∀ w1:World,w1.heap=w.heap→(getObj L.b).run P w1 = .ok (.mapIter (some Lm.b) clock seen.toArray clock) w1:=fun w1 h1=>by simp[getObj,Sem.run,h1,hblk]
   have P3:∀ w1:World,w1.heap=w.heap→(getObj Lm.b).run P w1 = .ok (.map arr clock) w1:=fun w1 h1=>by simp[getObj,Sem.run,h1,B7]
   have kz:∀ e,e∈(leftOf arr seen.toArray).toList→∃ i k d,es[i]? = some (k,d)∧i ∉ seen∧e.key=k∧eJ c w e.val d∧e.born=i:=by
    intro e he
    have xD:e∈arr∧(!seen.toArray.contains e.born)=true:=by
     have:=dw.1 (show e∈leftOf arr seen.toArray by simpa using he)
     exact this
    obtain⟨i,hi⟩:=aF.1 (show e∈arr.toList by simpa using xD.1)
    have tv:i<es.length:=by rw[← gH];have:=(af.1 hi).1;simpa using this
    obtain⟨q1,q2,q3⟩:=kS i e es[i] (by simpa using hi) (by simp[tv])
    refine⟨i,es[i].1,es[i].2,by simp[tv],?_,q1,q2,q3⟩
    have:=xD.2
    rw[q3]at this
    simpa using this
   by_cases ly:(leftOf arr seen.toArray) = #[]
   ·have ig:(execOp a.eval o).run P w = .ok (.value (.tuple #[.bool false])) w:=by
     have h2:(Instr.next (.pointer (some ⟨L.b,0,none⟩)) false o.type).run P w = .ok (.tuple #[.bool false]) w:=by
      have B1:(arr.filter fun e => !(seen.toArray).contains e.born) = #[]:=ly
      simp only[Instr.next,Sem.run_bind,P2 w rfl,Result.andThen_ok,P3 w rfl,QG,bG,if_false,Sem.run_pure,B1]
      simp[choose,Sem.run,Question.forced]
     simp only[execOp,ho,hu]
     rw[vS]
     simp[h2]
    rw[ig]
    refine k0 (fun i hi=>?_) c w _ (hs.next hs.eM (Step.refl _ _ _ _) hd (.tup [.bool false] _ rfl fun j v d hv hd=>?_)) (Step.refl _ _ _ _)
    ·by_cases ft:i∈seen
     ·exact ft
     ·exfalso
      have xH:i<arr.size:=by omega
      have W3:=(kS i arr[i] es[i] (by simp[xH]) (by simp[hi])).2.2
      have:arr[i]∈leftOf arr seen.toArray:=by
       refine dw.2 ⟨Array.getElem_mem _,?_⟩
       rw[W3];simpa using ft
      rw[ly]at this
      simp at this
    ·match j,hv,hd with
     | 0,hv,hd=>cases hv;cases hd;exact .val _
   ·have gw:(leftOf arr seen.toArray).isEmpty=false:=by
     cases hq:(leftOf arr seen.toArray).isEmpty with
     | false=>rfl
     | true=>exact absurd (Array.isEmpty_iff.1 hq) ly
    have jm:0<(leftOf arr seen.toArray).size:=by
     rcases dH (leftOf arr seen.toArray).size with h|h
     ·exact absurd (Array.eq_empty_of_size_eq_zero h) ly
     ·exact h
    have KW:∃ (i:Nat) (w1:World),i<(leftOf arr seen.toArray).size∧jq w w1∧w1.heap=w.heap∧(choose (.mapNext (leftOf arr seen.toArray).size)).run P w = .ok i w1:=by
     by_cases hf:(Question.mapNext (leftOf arr seen.toArray).size).forced=true
     ·exact⟨0,w,jm,jq.refl w,rfl,by simp[choose,Sem.run,hf]⟩
     ·exact⟨w.tape w.drawn (.mapNext (leftOf arr seen.toArray).size) % (leftOf arr seen.toArray).size,{ w with drawn:=w.drawn+1 },Nat.mod_lt _ jm,jq.drew w,rfl,by simp[choose,Sem.run,hf,Question.cut]⟩
    obtain⟨i,w1,hi,P4,Xx,Xa⟩:=KW
    obtain⟨i',k,d,h1,h2,h3,h4,h5⟩:=kz (leftOf arr seen.toArray)[i] (by simp)
    have xS:=hs.eM.oD P4
    obtain⟨m1,m2⟩:=DI xS hv rfl rfl (ob':=.jJ (.fE m) clock (seen ++ [i'])) rfl eR gE (.mapIter (some Lm.b) clock (seen ++ [i']).toArray clock) (fun w' sE qS=>by
     simp only[gd]
     exact⟨gE,vS,Lm.b,.fE m Lm xW Ia,sE⟩)
    have eX:Step s.H.length c s.H w c (s.H.set v (.jJ (.fE m) clock (seen ++ [i']))) { w1 with heap:=w1.heap.setIfInBounds L.b (.mapIter (some Lm.b) clock (seen ++ [i']).toArray clock) }:=(Av _ P4).trans m2 (Nat.le_refl _)
    have ig:(execOp a.eval o).run P w = .ok (.value (.tuple #[.bool true,k,(leftOf arr seen.toArray)[i].val])) { w1 with heap:=w1.heap.setIfInBounds L.b (.mapIter (some Lm.b) clock (seen ++ [i']).toArray clock) }:=by
     have mA:(setObj L.b (.mapIter (some Lm.b) clock (seen ++ [i']).toArray clock)).run P w1 = .ok () { w1 with heap:=w1.heap.setIfInBounds L.b (.mapIter (some Lm.b) clock (seen ++ [i']).toArray clock) }:=by
      simp[setObj,Sem.run,Xx,hblk]
     have h2:(Instr.next (.pointer (some ⟨L.b,0,none⟩)) false o.type).run P w = .ok (.tuple #[.bool true,k,(leftOf arr seen.toArray)[i].val]) { w1 with heap:=w1.heap.setIfInBounds L.b (.mapIter (some Lm.b) clock (seen ++ [i']).toArray clock) }:=by
      have B1:(arr.filter fun e => !(seen.toArray).contains e.born)=leftOf arr seen.toArray:=rfl
      have im:((if (leftOf arr seen.toArray).isEmpty then #[none]else #[])++(leftOf arr seen.toArray ++ #[]).map some)=(leftOf arr seen.toArray).map some:=by simp[gw]
      simp only[Instr.next,Sem.run_bind,P2 w rfl,Result.andThen_ok,P3 w rfl,QG,bG,if_false,Sem.run_pure,B1,hold,lW,im,Array.size_map,Xa]
      have Xu:((leftOf arr seen.toArray).map some)[i]? = some (some (leftOf arr seen.toArray)[i]):=by simp[hi]
      simp only[Xu,Sem.run_bind]
      rw[h5,show seen.toArray.push i'=(seen ++ [i']).toArray by simp,mA]
      simp[h3]
     simp only[execOp,ho,hu]
     rw[vS]
     simp[h2]
    rw[ig]
    refine k1 i' k d h1 h2 c _ _ (hs.next m1 eX hd (.tup [.bool true,k,(leftOf arr seen.toArray)[i].val] _ rfl fun j v d hv hd=>?_)) eX
    match j,hv,hd with
    | 0,hv,hd=>cases hv;cases hd;exact .val _
    | 1,hv,hd=>cases hv;cases hd;exact .val _
    | 2,hv,hd=>cases hv;cases hd;exact h4.pd hs.eM.toHeapOK eX
def ag2{ro:Option Nat}{n:Nat}{o:Oper}{s:St}{io:gP}{d:D}{δ:Dl}{next:Act→World→Prop}{Q:Exit→Act→World→Prop}(hs:jX G N c w s a)(hc:mr P G o=some io)
  (hd:qH N o.dst=true) {al:Al} (gg:ma s.H al) (h:fG s.env.get s.H al.1 io=some (d,δ))
  (k:∀ c' w' a',jX G N c' w' { s with env:=put s.env o.dst d,H:=δ.app s.H al } a'→Step s.H.length c s.H w c' (δ.app s.H al) w'→next a' w'):o.wpIn (FW ro) n P a w next Q:=by
 obtain⟨v,w',hy,d',H',c',⟨rfl,rfl⟩,eM,hr,eX⟩:=Sf (P:=P) (K:=fun d' H'=>d'=d∧H'=δ.app s.H al) hs.eM hs.env gg hc (N6 h ⟨rfl,rfl⟩)
 refine⟨fun _ _=>trivial,?_⟩
 rw[Oper.semAt_plain (FW ro) a.eval o (yd hc)]
 have hn:=k c' w' (a.put o.dst v) (hs.next eM eX hd hr) eX
 rcases hy with hy|⟨hy,rfl⟩
 ·rw[hy];exact hn
 ·rw[hy];exact hn
