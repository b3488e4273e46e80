/- Part 3 of the proof of skewer.skewerlaw15.TableValues. -/
import Derived.Test.YtnaefnajkaohgaaGreatDoorE01
import Derived.Test.YtnaefnajkaohgaaGreatDoorE02
import Derived.Laws.IdiomRangeMap
import Derived.RangeFuncLeaves
import Derived.OwnWalkIn
set_option linter.all false
namespace Go.AL
open Go
def Ga:Int→Bool
 | .ofNat m=>Nat.ble m 9223372036854775807
 | .negSucc m=>Nat.ble m 9223372036854775807
theorem WQ(n:Int):Ga n=true↔lR n:=by
 unfold lR
 cases n with
 | ofNat m=>
  have e:Ga (.ofNat m)=Nat.ble m 9223372036854775807:=rfl
  rw[e,Nat.ble_eq]
  have:(Int.ofNat m)=(m:Int):=rfl
  omega
 | negSucc m=>
  have e:Ga (.negSucc m)=Nat.ble m 9223372036854775807:=rfl
  rw[e,Nat.ble_eq]
  have:Int.negSucc m = -((m:Int)+1):=Int.negSucc_eq m
  omega
instance(n:Int):Decidable (lR n):=decidable_of_iff (Ga n=true) (WQ n)
def Gg(k:Nat):Int→Bool
 | .ofNat m=>Nat.ble m k
 | .negSucc _=>true
def nU(n:Int)(k:Nat):Prop:=n≤(k:Int)
theorem XE(n:Int)(k:Nat):Gg k n=true↔nU n k:=by
 unfold nU
 cases n with
 | ofNat m=>
  have e:Gg k (.ofNat m)=Nat.ble m k:=rfl
  rw[e,Nat.ble_eq]
  have:(Int.ofNat m)=(m:Int):=rfl
  omega
 | negSucc m=>
  have e:Gg k (.negSucc m)=true:=rfl
  rw[e]
  have:Int.negSucc m = -((m:Int)+1):=Int.negSucc_eq m
  simp only[true_iff]
  omega
instance(n:Int)(k:Nat):Decidable (nU n k):=decidable_of_iff (Gg k n=true) (XE n k)
inductive Dl where
 | no
 | cells (v o:Nat) (xs:List D)
 | obj (v:Nat) (ob:Ob)
 | new (ob:Ob)
 deriving Inhabited
def Dl.app(H:U)(al:Al):Dl→U
 | .no=>H
 | .cells v o xs=>match H[v]? with
  | some (.row t g cs)=>H.set v (.row t g (cs.take o++xs++cs.drop (o+xs.length)))
  | _=>H
 | .obj v ob=>H.set v ob
 | .new ob=>al.2 ob
abbrev R:=Option (D×Dl)
def ret(d:D):R:=some (d,.no)
def iP(op:BinOp)(k:IntKind)(a b:Int):Option D:=
 match op with
 | .add=>if k = .i64 then(if lR (a+b)then some (.val (.int .i64 (a+b)))else none)else some (.val (.int k (k.wrap (a+b))))
 | .sub=>if k = .i64 then(if lR (a-b)then some (.val (.int .i64 (a-b)))else none)else some (.val (.int k (k.wrap (a-b))))
 | .mul=>if k = .i64 then(if lR (a*b)then some (.val (.int .i64 (a*b)))else none)else some (.val (.int k (k.wrap (a*b))))
 | .quo=>if b=0 then none else some (.val (.int k (k.wrap (a.tdiv b))))
 | .rem=>if b=0 then none else some (.val (.int k (a.tmod b)))
 | .and | .or | .xor | .andNot=>some (.val (.int k (bits op k a b)))
 | .eql=>some (.val (.bool (a == b)))
 | .neq=>some (.val (.bool (a != b)))
 | .lss=>some (.val (.bool (decide (a<b))))
 | .leq=>some (.val (.bool (decide (a≤b))))
 | .gtr=>some (.val (.bool (decide (a>b))))
 | .geq=>some (.val (.bool (decide (a≥b))))
 | _=>none
def KW(op:BinOp)(k:IntKind)(a b:Int):Option D:=
 match op with
 | .shl=>if 0≤b then some (.val (.int k (k.wrap (a*2 ^ (min b.toNat k.bits)))))else none
 | .shr=>if 0≤b then some (.val (.int k (a.fdiv (2 ^ (min b.toNat k.bits)))))else none
 | _=>none
def yR(op:BinOp)(a b:ByteArray):Option D:=
 match op with
 | .eql=>some (.val (.bool (a.data.toList == b.data.toList)))
 | .neq=>some (.val (.bool (!(a.data.toList == b.data.toList))))
 | .add=>if nU ((a.size+b.size:Nat):Int) 9223372036854775807 then some (.val (.string (a++b)))else none
 | _=>none
def jH(op:BinOp)(x y:D):Option D:=
 match x,y with
 | .val (.int k a),.val (.int k' b)=>if nR op then KW op k a b else if k=k' then iP op k a b else none
 | .val (.string a),.val (.string b)=>yR op a b
 | _,_=>none
def B4(op:UnOp)(x:D):Option D:=
 match op,x with
 | .not,.val (.bool b)=>some (.val (.bool (!b)))
 | .neg,.val (.int .i64 n)=>if lR (-n)then some (.val (.int .i64 (-n)))else none
 | .xor,.val (.int k n)=>some (.val (.int k (bits .xor k (if k.signed then -1 else k.max) n)))
 | _,_=>none
def vx(iq:Bool)(ls:List mR)(neg:Bool)(x y:D):Option D:=
 match iq,x,y with
 | true,.agg a,.agg b=>match my ls a b with
  | some r=>some (.val (.bool (if neg then !r else r)))
  | none=>none
 | false,x,y=>match my ls [x] [y]with
  | some r=>some (.val (.bool (if neg then !r else r)))
  | none=>none
 | _,_,_=>none
def wK(c a b:D):Option D:=
 match c with
 | .val (.bool x)=>some (if x then a else b)
 | _=>none
def rX(x:D)(H:U):Option D:=
 match x with
 | .ptr v g o=>match rowAt H v g with
  | some (_,cs)=>cs[o]?
  | none=>none
 | .fh cs=>cs[0]?
 | _=>none
def rY(n:Nat)(x:D)(H:U):Option D:=
 match x with
 | .ptr v g o=>match rowAt H v g with
  | some (_,cs)=>if o+n≤cs.length then some (.agg ((cs.drop o).take n))else none
  | none=>none
 | .fh cs=>if n≤cs.length then some (.agg (cs.take n))else none
 | _=>none
def wY(a x:D)(H:U):R:=
 match a with
 | .ptr v g o=>match rowAt H v g with
  | some (_,cs)=>if o<cs.length∧one x=true then some (.any,.cells v o [x])else none
  | none=>none
 | _=>none
def wZ(n:Nat)(a x:D)(H:U):R:=
 match a,cellsOf x with
 | .ptr v g o,some xs=>match rowAt H v g with
  | some (_,cs)=>if xs.length=n∧o+n≤cs.length then some (.any,.cells v o xs)else none
  | none=>none
 | _,_=>none
def p6(t:TypeId)(x:D)(n:Nat):R:=
 match cellsOf x with
 | some cs=>some (.ptr n 0 0,.new (.row t 0 cs))
 | none=>none
def xt(env:fO)(z:List D)(ps:List (Nat×Nat×X)):Option D:=
 match partsOf env ps with
 | some l=>match lay l z with
  | some cs=>some (.agg cs)
  | none=>none
 | none=>none
def tO(env:fO)(t sz:Nat)(z:List D)(m:Nat)(ps:List (Nat×X))(n:Nat):R:=
 match partsOf env (ps.map fun p=>(p.1*sz,sz,p.2))with
 | some l=>match lay l (List.replicate m z).flatten with
  | some cs=>some (.eT n 0 sz 0 m,.new (.row t 0 cs))
  | none=>none
 | none=>none
def z7(off:Nat)(x:D):Option D:=
 match x with
 | .ptr v g o=>some (.ptr v g (o+off))
 | .fh cs=>some (.fh (cs.drop off))
 | _=>none
def vD(off n:Nat)(iq:Bool)(x:D):Option D:=
 match x with
 | .agg cs=>if iq then(if off+n≤cs.length then some (.agg ((cs.drop off).take n))else none)else cs[off]?
 | _=>none
def mL(sz:Nat)(x i:D):Option D:=
 match x,i with
 | .sl fV es,.val (.int _ n)=>if fV=sz∧0≤n∧n<es.length then some (.fh (es.getD n.toNat []))else none
 | .eT v g fV off len,.val (.int _ n)=>if fV=sz∧0≤n∧n<len then some (.ptr v g ((off+n.toNat)*sz))else none
 | _,_=>none
def A0(sz n:Nat)(x i:D):Option D:=
 match x,i with
 | .ptr v g o,.val (.int _ k)=>if 0≤k∧k<n then some (.ptr v g (o+k.toNat*sz))else none
 | .fh cs,.val (.int _ k)=>if 0≤k∧k<n then some (.fh (cs.drop (k.toNat*sz)))else none
 | _,_=>none
def Gb(sz n:Nat)(iq:Bool)(x i:D):Option D:=
 match x,i with
 | .agg cs,.val (.int _ k)=>if 0≤k∧k<n then vD (k.toNat*sz) sz iq (.agg cs)else none
 | _,_=>none
def JR(x i:D):Option D:=
 match x,i with
 | .val (.string s),.val (.int _ k)=>if 0≤k∧k<s.size then some (.val (.int .u8 ((s.data.toList.getD k.toNat 0).toNat)))else none
 | _,_=>none
def wy(pe:KK)(z:D)(ok:Bool)(m k:D)(H:U):Option D:=
 match m,keyOf k with
 | .omap v,some kv=>match jU H v with
  | some (kk,es)=>if kk=pe∧kk.has kv=true then(match kI es kv with
    | some d=>some (if ok then .tup [d,.val (.bool true)]else d)
    | none=>some (if ok then .tup [z,.val (.bool false)]else z))else none
  | none=>none
 | _,_=>none
def uK(pe:KK)(m k x:D)(H:U):R:=
 match m,keyOf k with
 | .omap v,some kv=>match jU H v with
  | some (kk,es)=>if kk=pe∧kk.has kv=true then some (.any,.obj v (.map kk (jA es kv x)))else none
  | none=>none
 | _,_=>none
def E7(x:D)(i:Nat):Option D:=
 match x with
 | .tup ds=>ds[i]?
 | _=>none
def yq(t sz bytes:Nat)(z:List D)(l c:D)(v:Nat):R:=
 match l,c with
 | .val (.int _ n),.val (.int _ m)=>if 0≤n∧n≤m∧nU m 9223372036854775807∧nU ((bytes:Int)*m) 281474976710656 then some (.eT v 0 sz 0 n.toNat,.new (.row t 0 (List.replicate m.toNat z).flatten))else none
 | _,_=>none
def q6(env:fO)(sz:Nat)(x:D)(lo hi:Option X):Option D:=
 match x with
 | .sl fV es=>match ij env lo 0,ij env hi es.length with
  | some l,some h=>if fV=sz∧0≤l∧l≤h∧h≤es.length then some (.sl sz ((es.drop l.toNat).take (h.toNat-l.toNat)))else none
  | _,_=>none
 | .eT v g fV off len=>match ij env lo 0,ij env hi len with
  | some l,some h=>if fV=sz∧0≤l∧l≤h∧h≤len then some (.eT v g sz (off+l.toNat) (h.toNat-l.toNat))else none
  | _,_=>none
 | .emp=>match ij env lo 0,ij env hi 0 with
  | some l,some h=>if l=0∧h=0 then some .emp else none
  | _,_=>none
 | _=>none
def Hc(env:fO)(x:D)(lo hi:Option X):Option D:=
 match x with
 | .val (.string s)=>match ij env lo 0,ij env hi s.size with
  | some l,some h=>if 0≤l∧l≤h∧h≤s.size then some (.val (.string (s.extract l.toNat h.toNat)))else none
  | _,_=>none
 | _=>none
def py(t sz bytes:Nat)(x y:D)(H:U)(vn:Nat):R:=
 match jM sz H y with
 | some (ys,n)=>match x with
  | .eT v g fV off len=>match rowAt H v g with
   | some (t',cs)=>if fV=sz∧t'=t∧(off+len)*sz≤cs.length∧(len+n)*bytes≤140737488355328∧len+n≤9223372036854775807 then
     some (.eT v (g+1) sz 0 (len+n),.obj v (.row t (g+1) ((cs.drop (off*sz)).take (len*sz)++ys)))else none
   | none=>none
  | .emp=>if n=0 then some (.emp,.no)else if n*bytes≤140737488355328∧n≤9223372036854775807 then some (.eT vn 0 sz 0 n,.new (.row t 0 ys))else none
  | _=>none
 | none=>none
def xx(sz:Nat)(x y:D)(H:U):R:=
 match x,jM sz H y with
 | .eT v g fV off len,some (ys,n)=>match rowAt H v g with
  | some (t,cs)=>if fV=sz∧(off+len)*sz≤cs.length then
    some (.val (.int .i64 (min n len:Nat)),.obj v (.row t g (cs.take (off*sz)++ys.take (min n len*sz)++cs.drop (off*sz+min n len*sz))))else none
  | none=>none
 | .emp,some _=>some (.val (.int .i64 0),.no)
 | _,_=>none
def na(k:vc)(x:D)(H:U):Option D:=
 match k,x with
 | .slice,.sl _ es=>some (.val (.int .i64 es.length))
 | .slice,.emp=>some (.val (.int .i64 0))
 | .slice,.eT _ _ _ _ len=>some (.val (.int .i64 len))
 | .string,.val (.string s)=>some (.val (.int .i64 s.size))
 | .map,.omap v=>match jU H v with
  | some (_,es)=>some (.val (.int .i64 es.length))
  | none=>none
 | _,_=>none
def yp(env:fO)(isMax:Bool)(xs:List X):Option D:=
 match om env xs with
 | some [a,b]=>some (.val (.int .i64 (if isMax then max a b else min a b)))
 | some [a,b,c]=>some (.val (.int .i64 (if isMax then max (max a b) c else min (min a b) c)))
 | _=>none
def wF(x:D):Option D:=
 match x with
 | .ptr v g o=>some (.ptr v g o)
 | .fh cs=>some (.fh cs)
 | .fn (.func f) a b=>some (.fn (.func f) a b)
 | .gP v=>some (.gP v)
 | _=>none
def ER(k:IntKind)(x:D):Option D:=
 match x with
 | .val (.int _ n)=>some (.val (.int k (k.wrap n)))
 | _=>none
def xm(x:D)(H:U):Option D:=
 match jM 1 H x with
 | some (ys,_)=>match bytesOf ys with
  | some ns=>some (.val (.string (ns.foldl (fun r n=>r.push (UInt8.ofNat n.toNat)) ByteArray.empty)))
  | none=>none
 | none=>none
def lift:Option D→R
 | some d=>some (d,.no)
 | none=>none
def fH(env:fO)(H:U)(n:Nat):gC→R
 | .mv x=>lift (some (ev env x))
 | .pick c a b=>lift (wK (ev env c) (ev env a) (ev env b))
 | .box t x=>p6 t (ev env x) n
 | .alloc t z=>some (.ptr n 0 0,.new (.row t 0 z))
 | .build z ps=>lift (xt env z ps)
 | .buildSl t sz z m ps=>tO env t sz z m ps n
 | .ld1 x=>lift (rX (ev env x) H)
 | .ldN m x=>lift (rY m (ev env x) H)
 | .st1 a x=>wY (ev env a) (ev env x) H
 | .stN m a x=>wZ m (ev env a) (ev env x) H
 | .nilck x=>lift (wF (ev env x))
 | .arith op x y=>lift (jH op (ev env x) (ev env y))
 | .eqS iq ls neg x y=>lift (vx iq ls neg (ev env x) (ev env y))
 | .un op x=>lift (B4 op (ev env x))
 | .conv k x=>lift (ER k (ev env x))
 | .b2s x=>lift (xm (ev env x) H)
 | .mkfn f first cap=>lift (some (.fn f (first.map (ev env)) (cap.map (ev env))))
 | .mkmap kk=>some (.omap n,.new (.map kk []))
 | .mksl t sz bytes z l c=>yq t sz bytes z (ev env l) (ev env c) n
 | .slc sz x lo hi=>lift (q6 env sz (ev env x) lo hi)
 | .slcS x lo hi=>lift (Hc env (ev env x) lo hi)
 | .fieldA off x=>lift (z7 off (ev env x))
 | .field off m iq x=>lift (vD off m iq (ev env x))
 | .idxA sz x i=>lift (mL sz (ev env x) (ev env i))
 | .idxArr sz m x i=>lift (A0 sz m (ev env x) (ev env i))
 | .idx sz m iq x i=>lift (Gb sz m iq (ev env x) (ev env i))
 | .idxStr x i=>lift (JR (ev env x) (ev env i))
 | .lookup kk z ok m k=>lift (wy kk z ok (ev env m) (ev env k) H)
 | .mapUpd kk m k x=>uK kk (ev env m) (ev env k) (ev env x) H
 | .ext x i=>lift (E7 (ev env x) i)
 | .call _ _ | .callN _ _ | .callv _ _=>none
 | .app t sz bytes x y=>py t sz bytes (ev env x) (ev env y) H n
 | .copy sz x y=>xx sz (ev env x) (ev env y) H
 | .len k x=>lift (na k (ev env x) H)
 | .minmax isMax xs=>lift (yp env isMax xs)
 | .nilS .. | .capE .. | .appZ .. | .clr .. | .rangeS .. | .nextS .. | .rangeM .. | .nextM .. | .entry .. => none
section
variable{env:fO}{H:U}{al:Al}{d:D}{δ:Dl}{K:iw}
theorem acQ{a b c:D}(h:wK a b c=some d)(hk:K d H):Bq a b c H K:=by
 unfold wK at h
 unfold Bq
 (repeat' split at h)<;>simp_all
theorem Xy{x:D}(h:rX x H=some d)(hk:K d H):A7 x H K:=by
 unfold rX at h
 unfold A7
 (repeat' split at h)<;>simp_all
theorem Xz{n:Nat}{x:D}(h:rY n x H=some d)(hk:K d H):A8 n x H K:=by
 unfold rY at h
 unfold A8
 (repeat' split at h)<;>simp_all
theorem Sc{z:List D}{ps:List (Nat×Nat×X)}(h:xt env z ps=some d)(hk:K d H):vh env z ps H K:=by
 unfold xt at h
 unfold vh
 (repeat' split at h)<;>simp_all
theorem YG{x:D}(h:wF x=some d)(hk:K d H):Bm x H K:=by
 unfold wF at h
 unfold Bm
 (repeat' split at h)<;>simp_all
theorem aew{op:UnOp}{x:D}(h:B4 op x=some d)(hk:K d H):B3 op x H K:=by
 unfold B4 at h
 unfold B3
 (repeat' split at h)<;>simp_all
theorem Ti{b:Bool}{ls:List mR}{neg:Bool}{x y:D}(h:vx b ls neg x y=some d)(hk:K d H):tX b ls neg x y H K:=by
 unfold vx at h
 unfold tX
 (repeat' split at h)<;>simp_all
theorem SP{k:IntKind}{x:D}(h:ER k x=some d)(hk:K d H):zR k x H K:=by
 unfold ER at h
 unfold zR
 (repeat' split at h)<;>simp_all
theorem RY{x:D}(h:xm x H=some d)(hk:K d H):zy x H K:=by
 unfold xm at h
 unfold zy
 (repeat' split at h)<;>simp_all
theorem adX{sz:Nat}{x:D}{lo hi:Option X}(h:q6 env sz x lo hi=some d)(hk:K d H):BS env sz x lo hi H K:=by
 unfold q6 at h
 unfold BS
 (repeat' split at h)<;>simp_all
theorem adW{x:D}{lo hi:Option X}(h:Hc env x lo hi=some d)(hk:K d H):yL env x lo hi H K:=by
 unfold Hc at h
 unfold yL
 (repeat' split at h)<;>simp_all
theorem TS{off:Nat}{x:D}(h:z7 off x=some d)(hk:K d H):z6 off x H K:=by
 unfold z7 at h
 unfold z6
 (repeat' split at h)<;>simp_all
theorem Nl{off n:Nat}{b:Bool}{x:D}(h:vD off n b x=some d)(hk:K d H):vC off n b x H K:=by
 unfold vD at h
 unfold vC
 (repeat' split at h)<;>simp_all
theorem WR{sz:Nat}{x i:D}(h:mL sz x i=some d)(hk:K d H):AY sz x i H K:=by
 unfold mL at h
 unfold AY
 (repeat' split at h)<;>simp_all
theorem WT{sz n:Nat}{x i:D}(h:A0 sz n x i=some d)(hk:K d H):AZ sz n x i H K:=by
 unfold A0 at h
 unfold AZ
 (repeat' split at h)<;>simp_all
theorem WU{x i:D}(h:JR x i=some d)(hk:K d H):A2 x i H K:=by
 unfold JR at h
 unfold A2
 (repeat' split at h)<;>simp_all
theorem X5{kk:KK}{z:D}{ok:Bool}{m k:D}(h:wy kk z ok m k H=some d)(hk:K d H):Bb kk z ok m k H K:=by
 unfold wy at h
 unfold Bb
 split at h
 ·split at h
  ·split at h
   ·rename_i hc
    obtain⟨rfl,hc⟩:=hc
    simp only[*,true_and]
    split at h
    ·rename_i heq;cases h;simp only[heq];exact hk
    ·rename_i heq;cases h;simp only[heq];exact hk
   ·cases h
  ·cases h
 ·cases h
theorem Ts{x:D}{i:Nat}(h:E7 x i=some d)(hk:K d H):z1 x i H K:=by
 unfold E7 at h
 unfold z1
 (repeat' split at h)<;>simp_all
theorem XQ{k:vc}{x:D}(h:na k x H=some d)(hk:K d H):A' k x H K:=by
 unfold na at h
 unfold A'
 (repeat' split at h)<;>simp_all
theorem Yo{b:Bool}{xs:List X}(h:yp env b xs=some d)(hk:K d H):Bh env b xs H K:=by
 unfold yp at h
 unfold Bh
 (repeat' split at h)<;>simp_all
theorem RR{op:BinOp}{k:IntKind}{a b:Int}(h:iP op k a b=some d)(hk:K d H):zw op k a b H K:=by
 unfold iP at h
 unfold zw
 (repeat' split at h)<;>simp_all
theorem adR{op:BinOp}{k:IntKind}{a b:Int}(h:KW op k a b=some d)(hk:K d H):BR op k a b H K:=by
 unfold KW at h
 unfold BR
 (repeat' split at h)<;>simp_all
theorem aep{op:BinOp}{a b:ByteArray}(h:yR op a b=some d)(hk:K d H):Hj op a b H K:=by
 unfold yR at h
 unfold Hj
 (repeat' split at h)<;>simp_all [nU]
theorem R9{t:TypeId}{x:D}(h:p6 t x al.1=some (d,δ))(hk:K d (δ.app H al)):zC t x al K:=by
 unfold p6 at h
 unfold zC
 (repeat' split at h)<;>cases h<;>simp_all [Dl.app]
theorem Sb{t sz:Nat}{z:List D}{m:Nat}{ps:List (Nat×X)}(h:tO env t sz z m ps al.1=some (d,δ))(hk:K d (δ.app H al)):zD env t sz z m ps al K:=by
 unfold tO at h
 unfold zD
 (repeat' split at h)<;>cases h<;>simp_all [Dl.app]
theorem BJ{v g:Nat}{x:TypeId×List D}(h:rowAt H v g=some x):H[v]? = some (.row x.1 g x.2):=by
 unfold rowAt at h
 split at h
 ·split at h
  ·rename_i e;subst e;cases h;assumption
  ·cases h
 ·cases h
theorem aei{a x:D}(h:wY a x H=some (d,δ))(hk:K d (δ.app H al)):BU a x H K:=by
 unfold wY at h
 unfold BU
 split at h
 ·split at h
  ·rename_i v g o _ t cs gf
   split at h
   ·rename_i hc
    cases h
    simp only[gf]
    refine⟨hc.1,hc.2,?_⟩
    simp only[Dl.app,BJ gf]at hk
    have e:cs.set o x=cs.take o ++ [x]++cs.drop (o + [x].length):=by
     rw[cO,if_pos hc.1];simp
    rw[e]
    exact hk
   ·cases h
  ·cases h
 ·cases h
theorem aej{n:Nat}{a x:D}(h:wZ n a x H=some (d,δ))(hk:K d (δ.app H al)):BV n a x H K:=by
 unfold wZ at h
 unfold BV
 split at h
 ·split at h
  ·rename_i v g o xs _ _ t cs gf
   split at h
   ·rename_i hc
    cases h
    simp only[*]
    refine⟨trivial,trivial,?_⟩
    simp only[Dl.app,BJ gf]at hk
    rw[hc.1]at hk
    exact hk
   ·cases h
  ·cases h
 ·cases h
theorem Yu{t sz bytes:Nat}{z:List D}{l c:D}(h:yq t sz bytes z l c al.1=some (d,δ))(hk:K d (δ.app H al)):Bi t sz bytes z l c al K:=by
 unfold yq at h
 unfold Bi
 (repeat' split at h)<;>cases h<;>simp_all [Dl.app,nU]
theorem Yk{kk:KK}{m k x:D}(h:uK kk m k x H=some (d,δ))(hk:K d (δ.app H al)):Bd kk m k x H K:=by
 unfold uK at h
 unfold Bd
 split at h
 ·split at h
  ·split at h
   ·rename_i hc
    obtain⟨rfl,hc⟩:=hc
    cases h
    simp only[*,true_and]
    exact hk
   ·cases h
  ·cases h
 ·cases h
theorem RQ{t sz bytes:Nat}{x y:D}(h:py t sz bytes x y H al.1=some (d,δ))(hk:K d (δ.app H al)):zu t sz bytes x y H al K:=by
 unfold py at h
 unfold zu
 (repeat' split at h)<;>cases h<;>simp_all [Dl.app]
theorem SR{sz:Nat}{x y:D}(h:xx sz x y H=some (d,δ))(hk:K d (δ.app H al)):zU sz x y H K:=by
 unfold xx at h
 unfold zU
 (repeat' split at h)<;>cases h<;>simp_all [Dl.app]
theorem R3{op:BinOp}{x y:D}(h:jH op x y=some d)(hk:K d H):zB op x y H K:=by
 unfold jH at h
 unfold zB
 split at h
 ·split at h
  ·rename_i hs;simp only[hs,if_true];exact adR h hk
  ·rename_i hs
   simp only[hs]
   split at h
   ·rename_i e;exact⟨e,RR h hk⟩
   ·cases h
 ·exact aep h hk
 ·cases h
theorem WV{sz n:Nat}{b:Bool}{x i:D}(h:Gb sz n b x i=some d)(hk:K d H):A1 sz n b x i H K:=by
 unfold Gb at h
 unfold A1
 split at h
 ·split at h
  ·rename_i hc;exact⟨hc,Nl h hk⟩
  ·cases h
 ·cases h
theorem kB{o:Option D}(h:lift o=some (d,δ)):o=some d∧δ = .no:=by
 cases o<;>simp[lift]at h
 exact⟨by rw[h.1],h.2.symm⟩
theorem Mj{io:gC}(h:fH env H al.1 io=some (d,δ))(hk:K d (δ.app H al)):zt env H al K io:=by
 cases io<;>simp only[fH]at h<;>simp only[zt]
 case mv=>obtain⟨h2,rfl⟩:=kB h;cases h2;exact hk
 case mkfn=>obtain⟨h2,rfl⟩:=kB h;cases h2;exact hk
 case alloc=>cases h;exact hk
 case mkmap=>cases h;exact hk
 case call=>cases h
 case callN=>cases h
 case callv=>cases h
 case nilS=>cases h
 case capE=>cases h
 case appZ=>cases h
 case clr=>cases h
 case rangeS=>cases h
 case nextS=>cases h
 case rangeM=>cases h
 case nextM=>cases h
 case entry=>cases h
 case box=>exact R9 h hk
 case buildSl=>exact Sb h hk
 case st1=>exact aei h hk
 case stN=>exact aej h hk
 case mksl=>exact Yu h hk
 case mapUpd=>exact Yk h hk
 case app=>exact RQ h hk
 case copy=>exact SR h hk
 case pick=>obtain⟨h2,rfl⟩:=kB h;exact acQ h2 hk
 case build=>obtain⟨h2,rfl⟩:=kB h;exact Sc h2 hk
 case ld1=>obtain⟨h2,rfl⟩:=kB h;exact Xy h2 hk
 case ldN=>obtain⟨h2,rfl⟩:=kB h;exact Xz h2 hk
 case nilck=>obtain⟨h2,rfl⟩:=kB h;exact YG h2 hk
 case arith=>obtain⟨h2,rfl⟩:=kB h;exact R3 h2 hk
 case eqS=>obtain⟨h2,rfl⟩:=kB h;exact Ti h2 hk
 case un=>obtain⟨h2,rfl⟩:=kB h;exact aew h2 hk
 case conv=>obtain⟨h2,rfl⟩:=kB h;exact SP h2 hk
 case b2s=>obtain⟨h2,rfl⟩:=kB h;exact RY h2 hk
 case slc=>obtain⟨h2,rfl⟩:=kB h;exact adX h2 hk
 case slcS=>obtain⟨h2,rfl⟩:=kB h;exact adW h2 hk
 case fieldA=>obtain⟨h2,rfl⟩:=kB h;exact TS h2 hk
 case field=>obtain⟨h2,rfl⟩:=kB h;exact Nl h2 hk
 case idxA=>obtain⟨h2,rfl⟩:=kB h;exact WR h2 hk
 case idxArr=>obtain⟨h2,rfl⟩:=kB h;exact WT h2 hk
 case idx=>obtain⟨h2,rfl⟩:=kB h;exact WV h2 hk
 case idxStr=>obtain⟨h2,rfl⟩:=kB h;exact WU h2 hk
 case lookup=>obtain⟨h2,rfl⟩:=kB h;exact X5 h2 hk
 case ext=>obtain⟨h2,rfl⟩:=kB h;exact Ts h2 hk
 case len=>obtain⟨h2,rfl⟩:=kB h;exact XQ h2 hk
 case minmax=>obtain⟨h2,rfl⟩:=kB h;exact Yo h2 hk
end
end Go.AL
namespace Go.AL
open Go
mutual
def flat:D→Bool
 | .any | .val _ | .emp=>true
 | .agg cs | .tup cs=>sL cs
 | .sl _ es=>es.isEmpty
 | _=>false
def sL:List D→Bool
 | []=>true
 | d::ds=>flat d&&sL ds
end
def chunks(sz:Nat):Nat→List D→List (List D)
 | 0,_=>[]
 | n+1,cs=>cs.take sz::chunks sz n (cs.drop sz)
def eZ(ρ:Nat→Option Nat)(H:U):Nat→D→D
 | 0,d=>if closed d then d else .any
 | k+1,d=>if closed d then d else match d with
  | .agg cs=>.agg (cs.map (eZ ρ H k))
  | .tup cs=>.tup (cs.map (eZ ρ H k))
  | .sl sz es=>.sl sz (es.map (·.map (eZ ρ H k)))
  | .fh cs=>.fh (cs.map (eZ ρ H k))
  | .fn f a b=>.fn f (a.map (eZ ρ H k)) (b.map (eZ ρ H k))
  | .eT v g sz off len=>match ρ v with
   | some v'=>.eT v' g sz off len
   | none=>match rowAt H v g with
    | some (_,cs)=>if (off+len)*sz≤cs.length then .sl sz (chunks sz len ((cs.drop (off*sz)).map (eZ ρ H k)))else .any
    | none=>.any
  | .ptr v g off=>match ρ v with
   | some v'=>.ptr v' g off
   | none=>match rowAt H v g with
    | some (_,cs)=>.fh ((cs.drop off).map (eZ ρ H k))
    | none=>.any
  | .omap v=>match ρ v with
   | some v'=>.omap v'
   | none=>.any
  | .gP v=>match ρ v with
   | some v'=>.gP v'
   | none=>.any
  | d=>d
def iL(ρ:Nat→Option Nat)(H:U):Ob→Ob
 | .row t g cs=>.row t g (cs.map (eZ ρ H 40))
 | .map kk es=>.map kk (es.map fun x=>(x.1,eZ ρ H 40 x.2))
 | .gg rf env st=>.gg rf (env.map fun x=>(x.1,eZ ρ H 40 x.2)) st
 | .pn s p=>.pn s p
 | .jd m since seen=>.jd (eZ ρ H 40 m) since seen
 | .jv=>.jv
 | .dead=>.dead
 | .hole=>.dead
abbrev ki:=List (Nat×Bool)
def fL(ks:ki)(v:Nat):Option Nat:=ks.findIdx? (fun p=>p.2&&p.1 == v)
def lV(ks:ki)(H:U):U:=ks.map fun p=>if p.2 then(match H[p.1]? with|some o=>iL (fL ks) H o|none=>.dead)else .dead
def gG(n:Nat):D→List Nat
 | .eT v _ _ _ _=>if n≤v then [v]else []
 | .ptr v _ _=>if n≤v then [v]else []
 | .omap v=>if n≤v then [v]else []
 | .gP v=>if n≤v then [v]else []
 | _=>[]
def lU(n:Nat):Ob→List Nat
 | .row _ _ cs=>(cs.map (gG n)).flatten
 | .map _ es=>(es.map fun x=>gG n x.2).flatten
 | _=>[]
def dedup:List Nat→List Nat
 | []=>[]
 | x::r=>if x∈r then dedup r else x::dedup r
def gq(n:Nat)(K:List Nat):ki:=((List.range n).map fun v=>(v,true))++K.map fun v=>(v,true)
def forget(live:List Nat)(env:Env):Env:=live.map fun k=>(k,env.get k)
structure St where
 env:Env
 H:U
 marks:List Nat:=[]
 fG:Bool:=false
 deriving Inhabited
def cut(n:Nat)(live:List Nat)(s:St):St:=
 let env:=forget live s.env
 if s.H.length≤n then{ s with env:=env }else
 let K:=dedup (((env.map fun p=>gG n p.2).flatten++((s.H.take n).map (lU n)).flatten++s.marks.filter (n≤·)).filter (· < s.H.length))
 let ks:=gq n K
 { s with env:=env.map fun p=>(p.1,eZ (fL ks) s.H 40 p.2),H:=lV ks s.H,marks:=s.marks.map fun v=>(fL ks v).getD v }
def yz(n:Nat):D→List Nat
 | .eT v _ _ 0 _=>if n≤v then [v]else []
 | .tup ds=>(ds.map fun d=>match d with | .eT v _ _ 0 _=>if n≤v then [v]else []|_=>[]).flatten
 | _=>[]
inductive IR where
 | skip
 | ops (l:List fC)
 | draw (im:List (Nat×Nat)) (l:List fC)
 | kF (im:List (Nat×Nat)) (l es:List fC)
 | seq (a b:IR)
 | cond (c:X) (a b:IR)
 | block (id:Nat) (live:List Nat) (a:IR)
 | loop (live:List Nat) (a:IR)
 | kX (rf:Nat) (live:List Nat) (x:X)
 | exit (id:Nat)
 | ret
 | bad
 | fz (S:List Nat) (a:IR)
 | qE (S:List Nat) (a b:List fC)
 deriving Inhabited
inductive rp where
 | tmp (t:Nat)
 | tQ (t:Nat)
 | kM (n t:Nat)
 deriving Inhabited
structure eW where
 ntmps:Nat
 body:IR
 results:List rp
 full:Bool:=false
 own:Nat:=0
 fz:Bool:=false
 deriving Inhabited
def yG(s:St):rp→Option D
 | .tmp t=>some (s.env.get t)
 | .tQ t=>rX (s.env.get t) s.H
 | .kM n t=>rY n (s.env.get t) s.H
def qq(s:St):List rp→Option (List D)
 | []=>some []
 | x::r=>match yG s x,qq s r with
  | some d,some l=>some (d::l)
  | _,_=>none
def results(fn:eW)(s:St):Option D:=match qq s fn.results with
 | some [d]=>some d
 | some ds=>some (.tup ds)
 | none=>none
def pL(args:List D):Env:=args.zipIdx.map fun p=>(p.2,p.1)
def pS:List Nat→List D→Env→Env
 | k::ks,d::ds,env=>pS ks ds ((k,d)::env)
 | _,_,env=>env
def iW(env:fO):gC→Option (FuncId×List D)
 | .call f args=>some (f,args.map (ev env))
 | .callN f args=>some (f,args.map (ev env))
 | .callv f args=>match ev env f with
  | .fn (.func k) first cap=>some (k,first++args.map (ev env)++cap)
  | _=>none
 | _=>none
def A3:gC→Bool
 | .call _ _ | .callN _ _ | .callv _ _=>true
 | _=>false
def guardOf(env:fO):Option (Nat×Bool)→Option Bool
 | none=>some true
 | some (s,want)=>match env s with
  | .val (.bool b)=>some (b == want)
  | .val (.tuple _)=>some false
  | _=>none
def te(n:Nat):D→D
 | .eT v g sz off len=>.eT (v+n) g sz off len
 | d=>d
def iX(n:Nat):D→D
 | .eT v g sz off len=>.eT (v+n) g sz off len
 | .tup ds=>.tup (ds.map (te n))
 | .agg ds=>.agg (ds.map (te n))
 | d=>d
def l9:Ob→Bool
 | .row _ _ cs=>fy cs
 | _=>false
def nk:Ob→Bool
 | .row _ _ cs=>sL cs
 | _=>false
def th(p:D→Bool):D→Bool
 | .eT .. => true
 | d=>p d
def r9(p:D→Bool):D→Bool
 | .eT .. => true
 | .tup ds=>ds.all (th p)
 | .agg ds=>ds.all (th p)
 | d=>p d
def kW:D→Bool:=r9 closed
def mN:D→Bool:=r9 flat
def rowsOf(H:U)(v:Nat):Option (TypeId×Nat×List D):=match H[v]? with
 | some (.row t g cs)=>some (t,g,cs)
 | _=>none
def gh(H:U):Nat→D→List Nat
 | 0,_=>[]
 | k+1,d=>if closed d then []else match d with
  | .agg cs | .tup cs | .fh cs=>(cs.map (gh H k)).flatten
  | .sl _ es=>(es.map fun e=>(e.map (gh H k)).flatten).flatten
  | .fn _ a b=>(a.map (gh H k)).flatten++(b.map (gh H k)).flatten
  | .eT v _ _ _ _ | .ptr v _ _=>v::(match rowsOf H v with
   | some (_,_,cs)=>(cs.map (gh H k)).flatten
   | none=>[])
  | .omap v | .gP v=>[v]
  | _=>[]
def leave(own:Nat)(n:Nat)(H:U)(d:D):D×U:=
 if H.length≤n then(d,H)else
 let K:=dedup (((match own with|0=>[]|1=>yz n d|3=>((gh H 40 d).filter (n≤·)).take 1|_=>(gh H 40 d).filter (n≤·))++((H.take n).map (lU n)).flatten).filter (· < H.length))
 let ks:=gq n K
 (eZ (fL ks) H 40 d,lV ks H)
def jR(H:U)(S:List Nat):ki:=(List.range H.length).map fun v=>(v,!(S.contains v))
structure nI where
 params:List Nat
 a:IR
 b:IR
 deriving Inhabited
structure gj where
 fn:FuncId→Option eW
 round:Nat→Option nI:=fun _=>none
 sort:FuncId→Option Nat:=fun _=>none
 po:FuncId→Bool:=fun _=>false
def after(s:St)(dst:Option Nat)(args:List D)(r:D)(Hn:U):Option St:=
 if (if fy args then kW r&&Hn.all l9 else mN r&&Hn.all nk)then
  some { s with env:=put s.env dst (iX s.H.length r),H:=s.H++Hn }else none
def jx(S:List Nat)(s:St):St:=
 let ks:=jR s.H S
 { s with env:=s.env.map fun p=>(p.1,eZ (fL ks) s.H 40 p.2),H:=lV ks s.H }
end Go.AL
namespace Go.AL
open Go
theorem sI{ds:List D}(h:fy ds=true){i:Nat}{d:D}(hd:ds[i]? = some d):closed d=true:=by
 induction ds generalizing i with
 | nil=>simp at hd
 | cons x xs ih=>
  simp only[fy,ah]at h
  cases i with
  | zero=>simp at hd;subst hd;exact h.1
  | succ i=>exact ih h.2 (by simpa using hd)
theorem Sw{es:List (List D)}(h:xv es=true){i:Nat}{e:List D}(he:es[i]? = some e):fy e=true:=by
 induction es generalizing i with
 | nil=>simp at he
 | cons x xs ih=>
  simp only[xv,ah]at h
  cases i with
  | zero=>simp at he;subst he;exact h.1
  | succ i=>exact ih h.2 (by simpa using he)
theorem eV.closed{c c':Ctx}{w:World}(hF:∀ b,c.F b→c'.F b){u:Value}{d:D}(h:eV c w u d)(hc:closed d=true):eV c' w u d:=by
 induction h with
 | any v=>exact .any _
 | val v=>exact .val _
 | agg vs ds hl h1 h ih=>exact .agg vs _ hl h1 fun i v d hv hd=>ih i v d hv hd (sI hc hd)
 | tup vs ds hl h ih=>exact .tup vs _ hl fun i v d hv hd=>ih i v d hv hd (sI hc hd)
 | sl a len cap sz es g hlen iQ ji gy mY ny hr ih=>
  refine .sl a len cap sz _ g hlen iQ ji gy mY ?_ fun i e j d he hd=>ih i e j d he hd (sI (Sw hc he) hd)
  intro i e j d he hd
  obtain⟨b,o,ha,pC,vO,h1⟩:=ny i e j d he hd
  exact⟨b,o,ha,hF b pC,vO,h1⟩
 | emp=>exact .emp
 | eT=>cases hc
 | lu=>cases hc
 | ptr=>cases hc
 | fh b o cs g pC ny hr ih=>exact .fh b o _ g (hF b pC) ny fun j d hd=>ih j d hd (sI hc hd)
 | omap=>cases hc
 | fn f fs cs df dc gW hJ h1 h2 oN pJ=>
  simp only[AL.closed,ah]at hc
  exact .fn f fs cs _ _ gW hJ (fun i v d hv hd=>oN i v d hv hd (sI hc.1 hd)) (fun i v d hv hd=>pJ i v d hv hd (sI hc.2 hd))
 | gP=>cases hc
theorem xE{ds:List D}(h:sL ds=true){i:Nat}{d:D}(hd:ds[i]? = some d):flat d=true:=by
 induction ds generalizing i with
 | nil=>simp at hd
 | cons x xs ih=>
  simp only[sL,ah]at h
  cases i with
  | zero=>simp at hd;subst hd;exact h.1
  | succ i=>exact ih h.2 (by simpa using hd)
theorem eV.flat{c c':Ctx}{w:World}{u:Value}{d:D}(h:eV c w u d)(hc:flat d=true):eV c' w u d:=by
 induction h with
 | any v=>exact .any _
 | val v=>exact .val _
 | agg vs ds hl h1 h ih=>exact .agg vs _ hl h1 fun i v d hv hd=>ih i v d hv hd (xE hc hd)
 | tup vs ds hl h ih=>exact .tup vs _ hl fun i v d hv hd=>ih i v d hv hd (xE hc hd)
 | sl a len cap sz es g hlen iQ ji gy mY ny hr ih=>
  simp only[AL.flat,cS]at hc
  subst hc
  exact .sl a len cap sz _ g hlen iQ ji (by simp) mY (by simp) (by simp)
 | emp=>exact .emp
 | eT=>cases hc
 | lu=>cases hc
 | ptr=>cases hc
 | fh=>cases hc
 | omap=>cases hc
 | fn=>cases hc
 | gP=>cases hc
theorem Mv(sz:Nat):∀ (n:Nat) (cs:List D),(chunks sz n cs).length=n
 | 0,_=>rfl
 | n+1,cs=>by simp[chunks,Mv sz n]
theorem HR(sz:Nat):∀ (n:Nat) (cs:List D) (i:Nat) (e:List D),(chunks sz n cs)[i]? = some e→i<n∧e=(cs.drop (i*sz)).take sz
 | 0,_,i,e,h=>by simp[chunks]at h
 | n+1,cs,0,e,h=>by simp[chunks]at h;subst h;simp
 | n+1,cs,i+1,e,h=>by
  simp only[chunks,cB]at h
  obtain⟨h1,h2⟩:=HR sz n _ i e h
  refine⟨by omega,?_⟩
  rw[h2,dw]
  congr 2
  rw[bp];omega
theorem adV{c:Ctx}{w:World}{b o sz len cap:Nat}{vs:List Value}{ds:List D}(hF:c.F b)(hc:Cells c w vs ds)(hl:ds.length=len*sz)(iQ:len≤cap)(ji:cap≤maxLen)
  (hv:∀ (j:Nat) (v:Value),vs[j]? = some v→w.cell? ⟨b,o+j,none⟩=some v):eV c w (.slice (some ⟨b,o,none⟩) len cap) (.sl sz (chunks sz len ds)):=by
 have gM:∀ (i:Nat) (e:List D) (j:Nat) (d:D),(chunks sz len ds)[i]? = some e→e[j]? = some d→ds[i*sz+j]? = some d∧j<sz:=by
  intro i e j d he hd
  obtain⟨_,rfl⟩:=HR sz len ds i e he
  rw[aA]at hd
  split at hd
  ·rename_i hj;rw[aB]at hd;exact⟨hd,hj⟩
  ·cases hd
 refine .sl _ len cap sz _ (fun i j=>vs.getD (i*sz+j) undef) (Mv _ _ _) iQ ji ?_ (by simp) ?_ ?_
 ·intro e he
  obtain⟨i,hi⟩:=aD.1 he
  obtain⟨h1,rfl⟩:=HR sz len ds i e hi
  simp only[aS,br,hl]
  have:(i+1)*sz≤len*sz:=bx _ h1
  rw[bp]at this
  omega
 ·intro i e j d he hd
  obtain⟨h1,_⟩:=gM i e j d he hd
  obtain⟨v,ke,nA,_⟩:=hc.get h1
  refine⟨b,o,rfl,hF,?_,?_⟩
  ·simp only[List.getD,ke,aV];exact hv _ _ ke
  ·simp only[List.getD,ke,aV];exact nA
 ·intro i e j d he hd
  obtain⟨h1,_⟩:=gM i e j d he hd
  obtain⟨v,ke,_,wj⟩:=hc.get h1
  simp only[List.getD,ke,aV];exact wj
theorem Cells.map{c c':Ctx}{w:World}{f:D→D}(hr:∀ v d,eV c w v d→eV c' w v (f d)){vs:List Value}{cs:List D}(h:Cells c w vs cs):Cells c' w vs (cs.map f):=
 ⟨by simpa using h.len,h.one,fun i v d hv hd=>by
  simp only[au,ai]at hd
  obtain⟨d0,jq,rfl⟩:=hd
  exact hr _ _ (h.rep i v d0 hv jq)⟩
def Ctx.eZ(c:Ctx)(ks:ki)(H:U):Ctx where
 ι:=fun i g=>match ks[i]? with
  | some p=>c.ι p.1 g
  | none=>none
 F:=fun b=>c.F b∨∃ v L,jN c H v L∧fL ks v=none∧L.iv=false∧L.b=b
 RT:=c.RT
theorem QD{ks:ki}{v i:Nat}(h:fL ks v=some i):ks[i]? = some (v,true):=by
 unfold fL at h
 rw[bQ]at h
 obtain⟨hi,hp,_⟩:=h
 simp only[ah,beq_iff_eq]at hp
 rw[List.getElem?_eq_getElem hi]
 congr 1
 exact dH hp.2 hp.1
theorem QC{ks:ki}{v:Nat}(h:fL ks v=none)(i:Nat):ks[i]?≠some (v,true):=by
 intro hi
 unfold fL at h
 rw[cp]at h
 have:=h _ (a7 hi)
 simp at this
section
variable{G:GT}{c:Ctx}{H:U}{w:World}{ks:ki}
theorem yU{v i g:Nat}(h:fL ks v=some i):(c.eZ ks H).ι i g=c.ι v g:=by simp[Ctx.eZ,QD h]
theorem xg{b:Nat}(h:c.F b):(c.eZ ks H).F b:=Or.inl h
theorem LZ{v:Nat}{L:Loc}(h1:jN c H v L)(h2:fL ks v=none)(h3:L.iv=false):(c.eZ ks H).F L.b:=Or.inr ⟨v,L,h1,h2,h3,rfl⟩
theorem uN(h:fj G c H w):∀ (k:Nat) {u:Value} {d:D},eV c w u d→eV (c.eZ ks H) w u (eZ (fL ks) H k d)
 | 0,u,d,hr=>by
  unfold AL.eZ
  split
  ·rename_i hc;exact hr.closed (fun b hb=>xg hb) hc
  ·exact .any _
 | k+1,u,d,hr=>by
  have ih:=fun{u:Value} {d:D} (hr:eV c w u d)=>uN h k hr
  unfold AL.eZ
  split
  ·rename_i hc;exact hr.closed (fun b hb=>xg hb) hc
  ·cases hr with
   | any v=>exact .any _
   | val v=>exact .val _
   | agg vs ds hl h1 h2=>
     refine .agg vs _ (by simpa using hl) h1 fun i v d hv hd=>?_
     simp only[au,ai]at hd
     obtain⟨d0,jq,rfl⟩:=hd
     exact ih (h2 i v d0 hv jq)
   | tup vs ds hl h2=>
     refine .tup vs _ (by simpa using hl) fun i v d hv hd=>?_
     simp only[au,ai]at hd
     obtain⟨d0,jq,rfl⟩:=hd
     exact ih (h2 i v d0 hv jq)
   | sl a len cap sz es g hlen iQ ji gy mY ny hr=>
    refine .sl a len cap sz _ g (by simpa using hlen) iQ ji ?_ mY ?_ ?_
    ·intro e he
     simp only[ao]at he
     obtain⟨e0,Aq,rfl⟩:=he
     simpa using gy e0 Aq
    ·intro i e j d he hd
     simp only[au,ai]at he
     obtain⟨e0,Aq,rfl⟩:=he
     simp only[au,ai]at hd
     obtain⟨d0,jq,rfl⟩:=hd
     obtain⟨b,o,ha,pC,vO,h1⟩:=ny i e0 j d0 Aq jq
     exact⟨b,o,ha,xg pC,vO,h1⟩
    ·intro i e j d he hd
     simp only[au,ai]at he
     obtain⟨e0,Aq,rfl⟩:=he
     simp only[au,ai]at hd
     obtain⟨d0,jq,rfl⟩:=hd
     exact ih (hr i e0 j d0 Aq jq)
   | emp=>exact .emp
   | eT v g sz off len cap L e7 hv iQ ji kc=>
    dsimp only
    split
    ·rename_i v' kd
     exact .eT v' g sz off len cap L (by rw[yU kd];exact e7) hv iQ ji kc
    ·rename_i Jl
     split
     ·rename_i t cs gf
      split
      ·rename_i kS
       have s7:=qt gf
       obtain⟨arr,h1,h2,h3,h4⟩:=uQ h s7 e7 hv
       have ic:=(((h4.drop (off*sz)).map (fun _ _ hr=>ih hr)).take (len*sz))
       have hlen:((cs.drop (off*sz)).map (AL.eZ (fL ks) H k)).length=(cs.length-off*sz):=by simp
       have o9:chunks sz len ((cs.drop (off*sz)).map (AL.eZ (fL ks) H k))=chunks sz len (((cs.drop (off*sz)).map (AL.eZ (fL ks) H k)).take (len*sz)):=by
        have key:∀ (n:Nat) (xs:List D),chunks sz n xs=chunks sz n (xs.take (n*sz)):=by
         intro n
         induction n with
         | zero=>intro xs;rfl
         | succ n ih=>
          intro xs
          simp only[chunks]
          rw[cP,Nat.min_eq_left (by rw[bp];omega),ih (xs.drop sz),List.drop_take,show(n+1)*sz-sz=n*sz by rw[bp];omega]
        exact key _ _
       rw[o9]
       refine adV (LZ ⟨_,s7,rfl,e7⟩ Jl hv) ic ?_ iQ ji fun j x hx=>?_
       ·rw[aS,hlen]
        rw[bp]at kS
        omega
       ·rw[aA]at hx
        split at hx
        ·rw[aB,aA]at hx
         split at hx
         ·rw[aB]at hx
          simp[World.cell?,h1]
          rw[bj]
          simpa using hx
         ·cases hx
        ·cases hx
      ·exact .any _
     ·exact .any _
   | lu v g sz off L e7 a=>
    dsimp only
    split
    ·rename_i v' kd
     exact .lu v' g sz off L (by rw[yU kd];exact e7) a
    ·split
     ·split
      ·exact .sl a 0 0 sz _ (fun _ _=>undef) rfl (Nat.le_refl _) (by unfold maxLen;omega) (by simp[chunks]) (fun _=>rfl) (by simp[chunks]) (by simp[chunks])
      ·exact .any _
     ·exact .any _
   | ptr v g off L e7 hv=>
    dsimp only
    split
    ·rename_i v' kd
     exact .ptr v' g off L (by rw[yU kd];exact e7) hv
    ·rename_i Jl
     split
     ·rename_i t cs gf
      have s7:=qt gf
      obtain⟨arr,h1,h2,h3,h4⟩:=uQ h s7 e7 hv
      refine IB (LZ ⟨_,s7,rfl,e7⟩ Jl hv) ⟨_,(h4.drop off).map (fun _ _ hr=>ih hr),fun j x hx=>?_⟩
      rw[aB,aA]at hx
      split at hx
      ·rw[aB]at hx
       simp[World.cell?,h1]
       rw[bj]
       simpa using hx
      ·cases hx
     ·exact .any _
   | fh b o cs g pC ny hr=>
    refine .fh b o _ g (xg pC) ?_ ?_
    ·intro j d hd
     simp only[au,ai]at hd
     obtain⟨d0,jq,rfl⟩:=hd
     exact ny j d0 jq
    ·intro j d hd
     simp only[au,ai]at hd
     obtain⟨d0,jq,rfl⟩:=hd
     exact ih (hr j d0 jq)
   | omap v L e7 hv=>
    dsimp only
    split
    ·rename_i v' kd;exact .omap v' L (by rw[yU kd];exact e7) hv
    ·exact .any _
   | fn f fs cs df dc gW hJ h1 h2=>
    refine .fn f fs cs _ _ (by simpa using gW) (by simpa using hJ) ?_ ?_
    ·intro i v d hv hd
     simp only[au,ai]at hd
     obtain⟨d0,jq,rfl⟩:=hd
     exact ih (h1 i v d0 hv jq)
    ·intro i v d hv hd
     simp only[au,ai]at hd
     obtain⟨d0,jq,rfl⟩:=hd
     exact ih (h2 i v d0 hv jq)
   | gP v L e7 hv=>
    dsimp only
    split
    ·rename_i v' kd;exact .gP v' L (by rw[yU kd];exact e7) hv
    ·exact .any _
end
end Go.AL
namespace Go.AL
open Go
section
variable{G:GT}{c:Ctx}{H:U}{w:World}{ks:ki}
def u0(ks:ki):Prop:=∀ (i j:Nat) (p q:Nat×Bool),ks[i]? = some p→ks[j]? = some q→p.1=q.1→i=j
theorem KR{i:Nat}{o:Ob}(h:(lV ks H)[i]? = some o)(ha:o≠.dead):∃ v o0,ks[i]? = some (v,true)∧H[v]? = some o0∧o=iL (fL ks) H o0:=by
 unfold lV at h
 simp only[au,ai]at h
 obtain⟨p,hp,he⟩:=h
 split at he
 ·rename_i hb
  split at he
  ·rename_i o0 Ox
   exact⟨p.1,o0,by rw[hp,← hb],Ox,he.symm⟩
  ·exact absurd he.symm ha
 ·exact absurd he.symm ha
theorem QZ{o:Ob}(h:(iL (fL ks) H o).alive=true):o.alive=true∧(iL (fL ks) H o).gen=o.gen:=by
 cases o<;>simp_all [iL,Ob.alive,Ob.gen]
theorem KH{v i:Nat}(hk:u0 ks)(h:ks[i]? = some (v,true)):fL ks v=some i:=by
 cases hr:fL ks v with
 | none=>exact absurd h (QC hr i)
 | some j=>
  have:=QD hr
  rw[hk i j _ _ h this rfl]
theorem Gj{i:Nat}{L:Loc}(h:jN (c.eZ ks H) (lV ks H) i L):∃ v,ks[i]? = some (v,true)∧jN c H v L:=by
 obtain⟨o,ho,ha,e7⟩:=h
 obtain⟨v,o0,h1,h2,rfl⟩:=KR ho (by intro e;subst e;cases ha)
 obtain⟨a1,a2⟩:=QZ ha
 refine⟨v,h1,o0,h2,a1,?_⟩
 rw[a2]at e7
 simpa[Ctx.eZ,h1]using e7
theorem Qi{b:Nat}(h:kj (c.eZ ks H) (lV ks H) b):kj c H b:=by
 obtain⟨i,L,hl,hv,e⟩:=h
 obtain⟨v,_,h2⟩:=Gj hl
 exact⟨v,L,h2,hv,e⟩
theorem yI(h:fj G c H w)(hk:u0 ks):fj G (c.eZ ks H) (lV ks H) w where
 inj i j L L' h1 h2 h3 h4 he:=by
  obtain⟨v,k1,l1⟩:=Gj h1
  obtain⟨v',k2,l2⟩:=Gj h2
  have:=h.inj v v' L L' l1 l2 h3 h4 he
  subst this
  exact hk i j _ _ k1 k2 rfl
 lt b hb:=h.lt b (Qi hb)
 nF b hb hF:=by
  obtain⟨i,L,hl,hv,e⟩:=hb
  obtain⟨v,k1,l1⟩:=Gj hl
  rcases hF with hF|⟨v',L',l2,hn,kd,e'⟩
  ·exact h.nF b ⟨v,L,l1,hv,e⟩ hF
  ·have:=h.inj v v' L L' l1 l2 hv kd (e.trans e'.symm)
   subst this
   exact QC hn i k1
 iZ b hb:=by
  rcases hb with hb|⟨v,L,l,_,hv,e⟩
  ·exact h.iZ b hb
  ·exact h.lt b ⟨v,L,l,hv,e⟩
 out i k hi:=by
  simp only[lV,List.length_map]at hi
  simp[Ctx.eZ,aI hi]
 km i o k ho ie:=by
  have gd:o≠.dead:=by
   rintro rfl
   rcases ie with ie|⟨ie,_⟩<;>cases ie
  obtain⟨v,o0,h1,h2,rfl⟩:=KR ho gd
  rcases ie with ie|⟨ha,hg⟩
  ·cases o0<;>simp[iL]at ie
  ·obtain⟨a1,a2⟩:=QZ ha
   have:=h.km v o0 k h2 (.inr ⟨a1,by rw[← a2];exact hg⟩)
   simpa[Ctx.eZ,h1]using this
 ob i o ho:=by
  by_cases gd:o = .dead
  ·subst gd;simp[fX]
  ·obtain⟨v,o0,h1,h2,rfl⟩:=KR ho gd
   have h0:=h.ob v o0 h2
   have e7:(c.eZ ks H).ι i o0.gen=c.ι v o0.gen:=by simp[Ctx.eZ,h1]
   have hr:∀ u d,eV c w u d→eV (c.eZ ks H) w u (eZ (fL ks) H 40 d):=fun u d hd=>uN h 40 hd
   cases o0 with
   | dead=>simp[iL,fX]
   | hole=>simp[iL,fX]
   | row t g cs=>
    simp only[iL,Ob.gen]at e7 ⊢
    rw[e7]
    simp only[Ob.gen]at h0
    cases hL:c.ι v g with
    | none=>rw[hL]at h0;simp[fX]at h0
    | some L=>
     rw[hL]at h0
     simp only[fX]at h0 ⊢
     split
     ·rename_i hv;simp only[hv,if_true]at h0;simp[h0]
     ·rename_i hv
      simp only[hv]at h0
      obtain⟨arr,a1,a2,a3,a4⟩:=h0
      refine⟨arr,a1,a2,by simpa using a3,fun j d hd=>?_⟩
      simp only[au,ai]at hd
      obtain⟨d0,jq,rfl⟩:=hd
      obtain⟨x,nQ,kf,s8⟩:=a4 j d0 jq
      exact⟨x,nQ,kf,hr _ _ s8⟩
   | map kk es=>
    simp only[iL,Ob.gen]at e7 ⊢
    rw[e7]
    simp only[Ob.gen]at h0
    cases hL:c.ι v 0 with
    | none=>rw[hL]at h0;simp[fX]at h0
    | some L=>
     rw[hL]at h0
     simp only[fX]at h0 ⊢
     obtain⟨hv,jK,arr,clock,a1,a2,a3,a4⟩:=h0
     refine⟨hv,fun x hx=>?_,arr,clock,a1,by simpa using a2,fun j e x he hx=>?_,by simpa using a4⟩
     ·obtain⟨y,hy,rfl⟩:=ao.1 hx
      exact jK y hy
     ·simp only[au,ai]at hx
      obtain⟨y,hy,rfl⟩:=hx
      obtain⟨p,q,r⟩:=a3 j e y he hy
      exact⟨p,hr _ _ q,r⟩
   | gg rf env st=>
    simp only[iL,Ob.gen]at e7 ⊢
    rw[e7]
    simp only[Ob.gen]at h0
    cases hL:c.ι v 0 with
    | none=>rw[hL]at h0;simp[fX]at h0
    | some L=>
     rw[hL]at h0
     simp only[fX]at h0 ⊢
     obtain⟨hv,r,a1,a2,a3,a4⟩:=h0
     refine⟨hv,r,a1,fun k=>?_,a3,a4⟩
     have key:∀ (env:Env) (k:Nat),(Env.get (env.map fun x=>(x.1,eZ (fL ks) H 40 x.2)) k)=eZ (fL ks) H 40 (env.get k):=by
      intro env k
      induction env with
      | nil=>rfl
      | cons p r ih=>
       obtain⟨j,d⟩:=p
       simp only[List.map_cons,Env.rE]
       split
       ·rfl
       ·exact ih
     rw[key]
     exact hr _ _ (a2 k)
   | pn s p=>
    simp only[iL,Ob.gen]at e7 ⊢
    rw[e7]
    simp only[Ob.gen]at h0
    cases hL:c.ι v 0 with
    | none=>rw[hL]at h0;simp[fX]at h0
    | some L=>
     rw[hL]at h0
     simpa only[fX]using h0
   | jd m since seen=>
    simp only[iL,Ob.gen]at e7 ⊢
    rw[e7]
    simp only[Ob.gen]at h0
    cases hL:c.ι v 0 with
    | none=>rw[hL]at h0;simp[fX]at h0
    | some L=>
     rw[hL]at h0
     simp only[fX]at h0 ⊢
     obtain⟨a1,a2,bm,a3,a4⟩:=h0
     exact⟨a1,a2,bm,hr _ _ a3,a4⟩
   | jv=>
    simp only[iL,Ob.gen]at e7 ⊢
    rw[e7]
    simp only[Ob.gen]at h0
    cases hL:c.ι v 0 with
    | none=>rw[hL]at h0;simp[fX]at h0
    | some L=>
     rw[hL]at h0
     simpa only[fX]using h0
 gl g cs hg:=by
  obtain⟨h1,h2⟩:=h.gl g cs hg
  exact⟨h1,h2.closed (fun b hb=>xg hb) (by simpa[AL.closed]using h1)⟩
 rt:=h.rt
theorem KV(h:fj G c H w){n:Nat}(hn:∀ v,v<n→(ks[v]?).map (·.1)=some v):Step n c H w (c.eZ ks H) (lV ks H) w where
 os:=⟨rfl,Nat.le_refl _⟩
 tape:=rfl
 output:=rfl
 size:=Nat.le_refl _
 RT:=rfl
 Fm b hb:=xg hb
 Fn b hb:=by
  rcases hb with hb|⟨v,L,l,_,hv,e⟩
  ·exact .inl hb
  ·exact .inr (.inr ⟨v,L,l,hv,e⟩)
 kept _ _ _:=rfl
 old v k L hv e7:=by
  have:=hn v hv
  simp only[ai]at this
  obtain⟨p,hp,e⟩:=this
  simp only[Ctx.eZ,hp,e]
  exact e7
 own b hb:=.inr (Qi hb)
theorem Ug(env:Env)(k:Nat):(Env.get (env.map fun x=>(x.1,eZ (fL ks) H 40 x.2)) k)=eZ (fL ks) H 40 (env.get k):=by
 induction env with
 | nil=>rfl
 | cons p r ih=>
  obtain⟨j,d⟩:=p
  simp only[List.map_cons,Env.rE]
  split
  ·rfl
  ·exact ih
theorem M8(h:fj G c H w){env:Env}{a:Act}(he:jt c w env.get a):jt (c.eZ ks H) w (Env.get (env.map fun x=>(x.1,eZ (fL ks) H 40 x.2))) a:=fun k=>by
 rw[Ug]
 exact uN h 40 (he k)
theorem T8(live:List Nat)(env:Env)(k:Nat):(forget live env).get k = .any∨(forget live env).get k=env.get k:=by
 unfold forget
 induction live with
 | nil=>exact .inl rfl
 | cons x r ih=>
  simp only[List.map_cons,Env.rE]
  split
  ·rename_i e;subst e;exact .inr rfl
  ·exact ih
theorem xB{env:Env}{a:Act}(he:jt c w env.get a)(live:List Nat):jt c w (forget live env).get a:=fun k=>by
 rcases T8 live env k with h|h<;>rw[h]
 ·exact .any _
 ·exact he k
theorem Bg{x:Nat}:∀ {l:List Nat},x∈dedup l→x∈l
 | [],h=>h
 | y::r,h=>by
  unfold dedup at h
  split at h
  ·exact aW _ (Bg h)
  ·rcases aq.1 h with rfl|h
   ·exact cd
   ·exact aW _ (Bg h)
theorem zV{x:Nat}:∀ {l:List Nat},x∈l→x∈dedup l
 | y::r,h=>by
  unfold dedup
  split
  ·rename_i hy
   rcases aq.1 h with rfl|h
   ·exact zV hy
   ·exact zV h
  ·rcases aq.1 h with rfl|h
   ·exact cd
   ·exact aW _ (zV h)
theorem Gy:∀ (l:List Nat),(dedup l).Nodup
 | []=>List.nodup_nil
 | y::r=>by
  unfold dedup
  split
  ·exact Gy r
  ·rename_i hn
   exact ct.2 ⟨fun h=>hn (Bg h),Gy r⟩
theorem O5(h:(ks.map (·.1)).Nodup):u0 ks:=by
 intro i j p q hp hq e
 have hi:(ks.map (·.1))[i]? = some p.1:=by simp[hp]
 have hj:(ks.map (·.1))[j]? = some q.1:=by simp[hq]
 have qe:=(ae.1 hi).1
 have mF:=(ae.1 hj).1
 rw[List.getElem?_eq_getElem qe]at hi
 rw[List.getElem?_eq_getElem mF]at hj
 simp only[av]at hi hj
 exact(List.getElem_inj h).1 (by rw[hi,hj,e])
theorem O8{n:Nat}{K:List Nat}(hK:∀ v∈K,n≤v)(hd:K.Nodup):u0 (gq n K):=by
 apply O5
 unfold gq
 simp only[List.map_append,bA,ej,List.map_id']
 rw[aP]
 refine⟨List.nodup_range,hd,fun a ha b hb e=>?_⟩
 subst e
 have:=hK a hb
 simp at ha
 omega
theorem O7{n:Nat}{K:List Nat}(v:Nat)(hv:v<n):((gq n K)[v]?).map (·.1)=some v:=by
 unfold gq
 rw[ag (by simpa using hv)]
 simp[hv]
theorem NG{S:List Nat}:u0 (jR H S):=by
 apply O5
 unfold jR
 simp only[bA,ej,List.map_id']
 exact List.nodup_range
theorem NF{S:List Nat}(v:Nat)(hv:v<H.length):((jR H S)[v]?).map (·.1)=some v:=by
 unfold jR
 simp[hv]
theorem IC{S:List Nat}:(lV (jR H S) H).length=H.length:=by simp[lV,jR]
end
end Go.AL
namespace Go.AL
open Go
def EP:Operand→Bool
 | .const (.slice none 0 0)=>true
 | _=>false
def yM(P:Program)(t:TypeId):Bool:=match P.underlying t with
 | some (.slice _)=>true
 | _=>false
def o3(P:Program)(G:GT)(o:Oper):Option gC:=
 match o.op with
 | .binOp .eql t x y _=>if yM P t=true∧EP y=true then(cX G x).map (.nilS false)else none
 | .binOp .neq t x y _=>if yM P t=true∧EP y=true then(cX G x).map (.nilS true)else none
 | .range t x=>match P.underlying t,cX G x with
  | some .string,some a=>some (.rangeS a)
  | some (.map _ _),some a=>some (.rangeM a)
  | _,_=>none
 | .next x true=>(cX G x).map .nextS
 | .next x false=>(cX G x).map .nextM
 | .entry x=>(cX G x).map .entry
 | .call c=>match c.callee,c.argTypes.toList,c.args.toList with
  | .builtin .cap,[t],[x]=>if yM P t then(cX G x).map .capE else none
  | .builtin .clear,[t],[x]=>match P.underlying t with
   | some (.slice e)=>match nZ P e,P.info? e,cX G x with
    | some z,some i,some a=>if z.length=i.size∧0<i.size then some (.clr i.size z a)else none
    | _,_,_=>none
   | _=>none
  | .builtin .append,[t,u],[x,y]=>match P.underlying t,P.underlying u with
   | some (.slice e),some (.int .i64)=>match nZ P e,P.info? e,cX G x,cX G y with
    | some z,some i,some a,some b=>if z.length=i.size∧0<i.size then some (.appZ e i.size i.bytes z a b)else none
    | _,_,_,_=>none
   | _,_=>none
  | _,_,_=>none
 | _=>none
def Gx(neg:Bool):D→Option D
 | .emp=>some (.b !neg)
 | .sl _ (_::_)=>some (.b neg)
 | .eT _ _ _ _ (_+1)=>some (.b neg)
 | _=>none
def Ep(t sz bytes:Nat)(z:List D)(x n:D)(vn:Nat):R:=
 match x,n with
 | .emp,.val (.int .i64 m)=>if 0<m∧nU (m*bytes) 140737488355328∧nU m 9223372036854775807 then some (.eT vn 0 sz 0 m.toNat,.new (.row t 0 (List.replicate m.toNat z).flatten))else none
 | _,_=>none
def zN(sz:Nat)(z:List D)(x:D)(H:U):R:=
 match x with
 | .emp=>some (.any,.no)
 | .eT v g fV off len=>match rowAt H v g with
  | some (t,cs)=>if fV=sz∧(off+len)*sz≤cs.length then some (.any,.obj v (.row t g (cs.take (off*sz)++(List.replicate len z).flatten++cs.drop ((off+len)*sz))))else none
  | none=>none
 | _=>none
def Kq(x:D)(H:U):R:=
 match x with
 | .ptr v 0 0=>match H[v]? with
  | some (.pn s p)=>if p<s.size then some (.tup [.b true,.i p,.val (.int .i32 (Utf8.decode s p).1)],.obj v (.pn s (p+(Utf8.decode s p).2)))else some (.tup [.b false],.no)
  | _=>none
 | _=>none
def Bx(x:D)(H:U)(vn:Nat):R:=
 match x with
 | .omap m=>match jU H m with
  | some (_,es)=>some (.ptr vn 0 0,.new (.jd (.omap m) es.length []))
  | none=>none
 | _=>none
def E3(x:D)(H:U):Option D:=
 match x with
 | .ptr v 0 0=>match H[v]? with
  | some (.jd (.omap m) since seen)=>match jU H m,seen.getLast? with
   | some (_,es),some i=>match es[i]? with
    | some (k,d)=>if es.length=since then some (.tup [.val k,d])else none
    | none=>none
   | _,_=>none
  | _=>none
 | _=>none
def kY(env:fO)(H:U)(n:Nat):gC→R
 | .nilS neg x=>lift (Gx neg (ev env x))
 | .capE x=>match ev env x with
  | .emp=>some (.i 0,.no)
  | _=>none
 | .appZ t sz bytes z x m=>Ep t sz bytes z (ev env x) (ev env m) n
 | .clr sz z x=>zN sz z (ev env x) H
 | .rangeS x=>match ev env x with
  | .val (.string s)=>some (.ptr n 0 0,.new (.pn s 0))
  | _=>none
 | .nextS x=>Kq (ev env x) H
 | .rangeM x=>Bx (ev env x) H n
 | .entry x=>lift (E3 (ev env x) H)
 | _=>none
def Hh:gC→Bool
 | .nilS .. | .capE .. | .appZ .. | .clr .. | .rangeS .. | .nextS .. | .rangeM .. | .nextM .. | .entry .. => true
 | _=>false
theorem aef{op:gC}(h:Hh op=true)(f:fO)(H:U)(n:Nat):fH f H n op=none:=by
 cases op<;>first|(cases h;done)|rfl
theorem aeg{op:gC}(h:Hh op=true)(f:fO):iW f op=none:=by
 cases op<;>first|(cases h;done)|rfl
theorem H8{P:Program}{G:GT}{o:Oper}{io:gC}(h:o3 P G o=some io):Hh io=true:=by
 unfold o3 at h
 repeat' split at h
 all_goals first|(cases h;done)|(simp only[ai]at h;obtain⟨_,_,rfl⟩:=h;rfl)|(cases h;rfl)
section
variable{P:Program}{G:GT}{c:Ctx}{H:U}{w:World}{env:fO}{a:Act}
abbrev KO(H:U)(al:Al)(d:D)(δ:Dl):iw:=fun d' H'=>d'=d∧H'=δ.app H al
theorem Gv(h:fj G c H w){al:Al}(fZ:kZ H al)(o:Obj)(ob:Ob)(hg:ob.gen=0)(ha:ob.alive=true)
  (gi:(∀ u d,eV c w u d→eV (c.set al.1 0 ⟨w.heap.size,0,0,false⟩) (w.alloc o) u d)→(w.alloc o).heap[w.heap.size]? = some o→fX (c.set al.1 0 ⟨w.heap.size,0,0,false⟩) (w.alloc o) (some ⟨w.heap.size,0,0,false⟩) ob) :
  fj G (c.set al.1 0 ⟨w.heap.size,0,0,false⟩) (al.2 ob) (w.alloc o)∧eV (c.set al.1 0 ⟨w.heap.size,0,0,false⟩) (w.alloc o) (.pointer (some ⟨w.heap.size,0,none⟩)) (.ptr al.1 0 0) ∧
   Step H.length c H w (c.set al.1 0 ⟨w.heap.size,0,0,false⟩) (al.2 ob) (w.alloc o):=by
 have hL:(⟨w.heap.size,0,0,false⟩:Loc).iv=false→w.heap.size≤(⟨w.heap.size,0,0,false⟩:Loc).b∧(⟨w.heap.size,0,0,false⟩:Loc).b<(w.alloc o).heap.size:=fun _=>⟨Nat.le_refl _,by simp⟩
 have ht:=(fZ ob).qu
 have hs:=Ho h ht (iM.alloc w o) ⟨w.heap.size,0,0,false⟩ hL
 rw[hg]at hs
 have h1:=K5 h ht (iM.alloc w o) ⟨w.heap.size,0,0,false⟩ hL ha (by rw[hg];exact gi (fun u d hd=>hd.nX h.toHeapOK hs) (heap_alloc_new w o))
 rw[hg]at h1
 exact⟨h1,.ptr (c:=c.set al.1 0 ⟨w.heap.size,0,0,false⟩) al.1 0 0 ⟨w.heap.size,0,0,false⟩ (Ctx.pT _ _ _ _) rfl,hs⟩
theorem P'(h:fj G c H w){t:TypeId}(ht:yM P t=true){neg:Bool}{x d:D}{u:Value}(hr:eV c w u x)(ho:Gx neg x=some d)(xo yo:Operand) :
  ∃ r,(do eqGuard (if neg then .neq else .eql) t xo yo u (.slice none 0 0);binOp (if neg then .neq else .eql) t u (.slice none 0 0)).run P w = .ok r w∧eV c w r d:=by
 have JH:∃ e,P.underlying t=some (.slice e):=by
  unfold yM at ht
  split at ht
  ·exact⟨_,by assumption⟩
  ·cases ht
 obtain⟨e,hu⟩:=JH
 have heq:∀ (n:Nat) (ad:Option Addr) (len cap:Nat),(Op.equalIn (n+1) t (.slice ad len cap) (.slice none 0 0)).run P w = .ok ad.isNone w:=by
  intro n ad len cap
  cases ad<;>simp[Op.equalIn,run_underlying hu]
 have gv:∀ ad len cap,Op.equal t (.slice ad len cap) (.slice none 0 0)=Op.equalIn (9999+1) t (.slice ad len cap) (.slice none 0 0):=fun _ _ _=>rfl
 have key:∀ (ad:Option Addr) (len cap:Nat),u = .slice ad len cap→(do eqGuard (if neg then .neq else .eql) t xo yo u (.slice none 0 0);binOp (if neg then .neq else .eql) t u (.slice none 0 0)).run P w = .ok (.bool (if neg then !ad.isNone else ad.isNone)) w:=by
  rintro ad len cap rfl
  have h1:=heq 9999 ad len cap
  cases neg<;>simp only[eqGuard,binOp,gv,bH,if_false,if_true,Sem.run_bind,Bool.not_true,Sem.run_pure,Result.andThen_ok,h1]
 unfold Gx at ho
 split at ho
 ·cases ho
  cases hr
  exact⟨_,key none 0 0 rfl,by cases neg<;>exact .val _⟩
 ·cases ho
  cases hr with
  | sl ad len cap sz es g hlen iQ ji gy mY hc Jz=>
   have:ad≠none:=fun e=>by have:=mY e;simp at hlen;omega
   obtain⟨q,rfl⟩:=Option.ne_none_iff_exists'.1 this
   exact⟨_,key _ _ _ rfl,by cases neg<;>exact .val _⟩
 ·cases ho
  cases hr with
  | eT _ _ _ _ _ cap L e7 hv iQ ji kc=>exact⟨_,key _ _ _ rfl,by cases neg<;>exact .val _⟩
 ·cases ho
theorem aci(h:fj G c H w){v g o:Nat}{t':TypeId}{cs xs:List D}(hv:H[v]? = some (.row t' g cs)){L:Loc}(e7:c.ι v g=some L)(gw:L.iv=false){vs:List Value}(hx:Cells c w vs xs)
  (kS:o+xs.length≤cs.length):∃ w',(storeCells ⟨L.b,L.base+o,none⟩ vs).run P w = .ok () w'∧fj G c (H.set v (.row t' g (cs.take o++xs++cs.drop (o+xs.length)))) w'∧Step H.length c H w c (H.set v (.row t' g (cs.take o++xs++cs.drop (o+xs.length)))) w':=by
 obtain⟨arr,h1,h2,h3,h4⟩:=uQ h hv e7 gw
 have pH:vs.length=xs.length:=hx.len
 have fg:=run_storeCells_at P L.b (L.base+o) t' vs 0 arr w h1 (by simp;omega) hx.one
 simp only[bS]at fg
 have hw:=B9 h hv e7 gw h1 (arr.toList.take (L.base+o)++vs++arr.toList.drop (L.base+o+vs.length)).toArray
  (by simp;omega) h2 (cs.take o++xs++cs.drop (o+xs.length)) (by simp;omega) (fun i d hd=>by
   have F3:=h4.oR hx o
   obtain⟨y,hy,h5,h6⟩:=F3.get hd
   refine⟨y,?_,h5,h6⟩
   rw[← hy]
   simp only[c6]
   have gW:(List.take (L.base+o) arr.toList).length=L.base+o:=by simp;omega
   have hJ:(List.take o (List.take cs.length (List.drop L.base arr.toList))).length=o:=by simp;omega
   by_cases c1:i<o
   ·rw[ag (by simp;omega),ag (by rw[gW];omega),ag (by simp;omega),ag (by rw[hJ];omega)]
    simp only[aA,aB]
    rw[if_pos (by omega),if_pos c1,if_pos (by omega)]
   ·by_cases c2:i<o+xs.length
    ·rw[ag (by simp;omega),ak (by rw[gW];omega),ag (by simp;omega),ak (by rw[hJ];omega),gW,hJ]
     congr 1
     omega
    ·have mE:i<cs.length:=by have:=(ae.1 hd).1;simp at this;omega
     rw[ak (by simp;omega),ak (by simp;omega)]
     simp only[aB,aA,ax,gW,hJ,pH]
     rw[if_pos (by omega)]
     congr 1
     omega)
 exact⟨_,fg,hw.1,hw.2⟩
theorem acj(h:fj G c H w){al:Al}{t e ty:TypeId}{i:TypeInfo}{z:List D}(hu:P.underlying t=some (.slice e))(hi:P.info? e=some i)(hz:nZ P e=some z)(yg:z.length=i.size)(jr:0<i.size)
  {x d:D} {δ:Dl} {u:Value} (hr:eV c w u x) (ho:zN i.size z x H=some (d,δ)):∃ w',(Builtin.clear_ #[t] ty #[u]).run P w = .ok (.tuple #[]) w'∧ia G c H w (KO H al d δ) (.tuple #[]) w':=by
 unfold zN at ho
 split at ho
 ·cases ho
  cases hr
  exact⟨w,by simp[Builtin.clear_,run_underlying hu],_,_,c,⟨rfl,rfl⟩,h,.any _,Step.refl _ _ _ _⟩
 ·rename_i v g fV off len
  split at ho
  ·rename_i t' cs gf
   split at ho
   ·rename_i il
    obtain⟨rfl,kS⟩:=il
    cases ho
    have hv:=qt gf
    dsimp only at hv
    obtain⟨zv,s9,F',pI⟩:=uT hz w
    have rT:zv.cells.size=i.size:=by have:=(pI c w).len;simp at this;omega
    have Fv:(Dl.obj v (.row t' g (cs.take (off*i.size)++(List.replicate len z).flatten++cs.drop ((off+len)*i.size)))).app H al=H.set v (.row t' g (cs.take (off*i.size)++(List.replicate len z).flatten++cs.drop ((off+len)*i.size))):=rfl
    have oh:(List.replicate len z).flatten.length=len*i.size:=by simp[yg]
    have FZ:(.row t' g (cs.take (off*i.size)++(List.replicate 0 z).flatten++cs.drop ((off+0)*i.size)))=Ob.row t' g cs:=by simp
    have mg:H.set v (.row t' g cs)=H:=by
     have ft:=(ae.1 hv).1
     have gM:=(ae.1 hv).2
     rw[← gM];exact List.set_getElem_self ft
    cases hr with
    | eT _ _ _ _ _ cap L e7 gw iQ ji kc=>
     by_cases hn:len=0
     ·subst hn
      refine⟨w,by simp[Builtin.clear_,run_underlying hu],_,_,c,⟨rfl,rfl⟩,?_,.any _,?_⟩
      ·rw[Fv,FZ,mg];exact h
      ·rw[Fv,FZ,mg];exact Step.refl _ _ _ _
     ·have nK:Cells c w (Builtin.zeroCells zv.cells len).toList (List.replicate len z).flatten:=by
       have h1:(Builtin.zeroCells zv.cells len).toList=(List.replicate len zv.cells.toList).flatten:=by
        unfold Builtin.zeroCells
        exact GN zv.cells len (by omega)
       rw[h1]
       exact Fc _ _ pI len
      obtain⟨w',k1,k2,k3⟩:=aci (P:=P) (o:=off*i.size) h hv e7 gw nK (by rw[oh,← bp];exact kS)
      rw[oh,← bp]at k2 k3
      refine⟨w',?_,_,_,c,⟨rfl,rfl⟩,k2,.any _,k3⟩
      obtain⟨akx,rfl⟩:=Nat.exists_eq_succ_of_ne_zero hn
      simp[Builtin.clear_,run_underlying hu,s9,k1]
    | lu _ _ _ _ L e7 ad=>
     refine⟨w,by cases ad<;>simp[Builtin.clear_,run_underlying hu],_,_,c,⟨rfl,rfl⟩,?_,.any _,?_⟩
     ·rw[Fv,FZ,mg];exact h
     ·rw[Fv,FZ,mg];exact Step.refl _ _ _ _
   ·cases ho
  ·cases ho
 ·cases ho
theorem aca(h:fj G c H w){al:Al}(fZ:kZ H al){t u ty e:TypeId}{i:TypeInfo}{z:List D}(ht:P.underlying t=some (.slice e))(hu:P.underlying u=some (.int .i64))(hi:P.info? e=some i)(hz:nZ P e=some z)(yg:z.length=i.size)(jr:0<i.size)
  {x y d:D} {δ:Dl} {ux uy:Value} (h1:eV c w ux x) (h2:eV c w uy y) (ho:Ep e i.size i.bytes z x y al.1=some (d,δ)) :
  ∃ r w',(Builtin.append_ #[t,u] ty #[ux,uy]).run P w = .ok r w'∧ia G c H w (KO H al d δ) r w':=by
 unfold Ep at ho
 split at ho
 ·rename_i m
  split at ho
  ·rename_i il
   cases ho
   cases h1
   cases h2
   obtain⟨zv,s9,F',pI⟩:=uT hz w
   have AX:i.zero=some zv:=by simpa[hi]using F'
   have rT:zv.cells.size=i.size:=by have:=(pI c w).len;simp at this;omega
   obtain⟨n,rfl⟩:∃ n:Nat,m=n:=⟨m.toNat,by omega⟩
   obtain⟨Jk,nv,xN⟩:=il
   simp only[nU]at nv xN
   have Ot:0<n:=by omega
   have UR:n*i.bytes≤140737488355328:=by
    have h1:((n*i.bytes:Nat):Int)≤140737488355328:=by rw[Int.natCast_mul];exact nv
    omega
   have NM:n≤9223372036854775807:=by omega
   have sS:=grownCap_ge w n 0 e
   have mX:=grownCap_le_maxLen w n 0 e (by unfold maxLen;omega)
   have wn:IntKind.i64.wrap (n:Int)=n:=wrap_i64 (by unfold lR;omega)
   have gS:(Builtin.append_ #[t,u] ty #[.slice none 0 0,.int .i64 n]).run P w = .ok (.slice (some ⟨w.heap.size,0,none⟩) n (grownCap w n 0 e))
     (w.drew.alloc (.cells (Builtin.zeroCells zv.cells n++Builtin.zeroCells zv.cells (grownCap w n 0 e-n)) e)):=by
    have VP:¬ (n=0):=by omega
    have UM:∀ w:World,(asInt (.int .i64 (n:Int))).run P w = .ok (n:Int) w:=fun w=>by simp[asInt,asIntOf]
    have hle:¬ ((n:Int)≤0):=by omega
    have mf:max (n:Int) 0=n:=by omega
    have hnt:(n:Int).toNat=n:=by omega
    have gy:¬ (i.size=0):=by omega
    have VM:¬ ((n:Int)<0):=by omega
    have Ut:¬ (281474976710656<(n:Int)*(i.bytes:Int)):=by have:(n:Int)*(i.bytes:Int)≤140737488355328:=nv;omega
    have IK:¬ (281474976710656<Builtin.nextslicecap n 0*i.bytes):=by have:=growslice_fits (old:=0) Ot UR;omega
    have Uv:¬ (9223372036854775807<(n:Int)):=by omega
    simp[Builtin.append_,run_underlying ht,run_underlying hu,sizeOf,typeInfo,zeroValue,hi,AX,UM,wn,VM,Ut,VP,gy,IK,Uv,hle,mf,Question.forced,newRow,grownCap,run_firstCells_none]
    intro h0
    exact absurd h0 (Nat.ne_of_gt (Nat.mul_pos Ot jr))
   refine⟨_,_,gS,?_⟩
   have nK:Cells c w (Builtin.zeroCells zv.cells n).toList (List.replicate n z).flatten:=by
    have h1:(Builtin.zeroCells zv.cells n).toList=(List.replicate n zv.cells.toList).flatten:=by
     unfold Builtin.zeroCells
     exact GN zv.cells n (by omega)
    rw[h1]
    exact Fc _ _ pI n
   have gy:(Builtin.zeroCells zv.cells n++Builtin.zeroCells zv.cells (grownCap w n 0 e-n)).size=grownCap w n 0 e*i.size:=by
    simp only[cM,size_zeroCells,rT,← bp]
    congr 1;omega
   obtain⟨L,e1,e2,e3,e4,e5,e6⟩:=Bk h w.drew (iM.drew w) e _ (List.replicate n z).flatten (Builtin.zeroCells zv.cells n).size (Builtin.zeroCells zv.cells n++Builtin.zeroCells zv.cells (grownCap w n 0 e-n)) (fZ _).qu nK (by
    simp only[db]
    exact List.take_left' (by simp)) (by simp only[cM];omega)
   have hp:=GK (c:=c) (w:=w.drew.alloc (.cells (Builtin.zeroCells zv.cells n++Builtin.zeroCells zv.cells (grownCap w n 0 e-n)) e)) e1 e3 al.1 0 i.size n (grownCap w n 0 e) (by rw[e4,gy]) sS mX
   rw[e2]at hp
   exact⟨_,_,_,⟨rfl,rfl⟩,e5,hp,e6⟩
  ·cases ho
 ·cases ho
theorem acC(h:fj G c H w){al:Al}{x d:D}{δ:Dl}{u:Value}{ty:TypeId}(hr:eV c w u x)(ho:Kq x H=some (d,δ)):∃ r w',(Instr.next u true ty).run P w = .ok r w'∧ia G c H w (KO H al d δ) r w':=by
 unfold Kq at ho
 split at ho
 ·rename_i v
  split at ho
  ·rename_i s p hv
   cases hr with
   | ptr _ _ _ L e7 gw=>
    have gi:=h.ob v _ hv
    simp only[Ob.gen]at gi
    rw[e7]at gi
    simp only[fX]at gi
    obtain⟨_,uk,hblk⟩:=gi
    have ft:=(aO.1 hblk).1
    rw[uk]
    by_cases hp:p<s.size
    ·rw[if_pos hp]at ho
     cases ho
     obtain⟨m1,m2⟩:=B8 h hv rfl rfl (ob':=.pn s (p+(Utf8.decode s p).2)) rfl e7 gw (.stringIter s (p+(Utf8.decode s p).2)) (fun w' qQ _=>by
      simp only[fX];exact⟨gw,uk,qQ⟩)
     refine⟨.tuple #[.bool true,goInt p,.int .i32 (Utf8.decode s p).1],_,?_,_,_,c,⟨rfl,rfl⟩,m1,?_,m2⟩
     ·simp[Instr.next,getObj,setObj,Sem.run,hblk,hp]
     ·refine .tup [.bool true,goInt p,.int .i32 (Utf8.decode s p).1] _ rfl fun i v d hv hd=>?_
      match i,hv,hd with
      | 0,hv,hd=>cases hv;cases hd;exact .val _
      | 1,hv,hd=>cases hv;cases hd;exact .val _
      | 2,hv,hd=>cases hv;cases hd;exact .val _
    ·rw[if_neg hp]at ho
     cases ho
     refine⟨.tuple #[.bool false],w,?_,_,_,c,⟨rfl,rfl⟩,h,?_,Step.refl _ _ _ _⟩
     ·simp[Instr.next,getObj,Sem.run,hblk,hp]
     ·refine .tup [.bool false] _ rfl fun i v d hv hd=>?_
      match i,hv,hd with
      | 0,hv,hd=>cases hv;cases hd;exact .val _
  ·cases ho
 ·cases ho
theorem acn(h:fj G c H w){x d:D}{u:Value}(hr:eV c w u x)(ho:E3 x H=some d):∃ r,(Instr.entry u).run P w = .ok r w∧eV c w r d:=by
 unfold E3 at ho
 split at ho
 ·rename_i v
  split at ho
  ·rename_i m since seen hv
   split at ho
   ·rename_i kk es i hm v7
    split at ho
    ·rename_i k d0 N5
     split at ho
     ·rename_i hlen
      cases ho
      have rP:=uJ hm
      dsimp only at rP
      cases hr with
      | ptr _ _ _ L e7 gw=>
       have gi:=h.ob v _ hv
       simp only[Ob.gen]at gi
       rw[e7]at gi
       simp only[fX]at gi
       obtain⟨_,uk,bm,x9,hblk⟩:=gi
       cases x9 with
       | omap _ Lm wm F5=>
        have pb:=h.ob m _ rP
        simp only[Ob.gen]at pb
        rw[wm]at pb
        simp only[fX]at pb
        obtain⟨_,_,arr,clock,AF,gy,jS,An⟩:=pb
        have hi:i<arr.size:=by rw[gy];exact(ae.1 N5).1
        have UJ:arr[i]? = some arr[i]:=by simp[hi]
        obtain⟨q1,q2,q3⟩:=jS i _ _ UJ N5
        have UN:seen.toArray.back? = some i:=by simpa[Array.back?_eq_getElem?,List.getLast?_eq_getElem?]using v7
        have Vc:arr.find? (fun e=>e.born == i)=some arr[i]:=by
         rw[Array.find?_eq_some_iff_getElem]
         refine⟨by simp[q3],i,hi,rfl,fun j hj=>?_⟩
         have mF:j<es.length:=by rw[← gy];omega
         have:=(jS j arr[j] es[j] (by simp) (by simp[mF])).2.2
         simp[this]
         try omega
        refine⟨.tuple #[k,arr[i].val],?_,?_⟩
        ·rw[uk]
         have hc:clock=since:=by rw[An,hlen]
         subst hc
         simp only[aY]
         simp only[Instr.entry,getObj,Sem.run_bind,Sem.run,hblk,Result.andThen_ok,UN,AF,Vc]
         simp[q1]
        ·refine .tup [k,arr[i].val] _ rfl fun j v d hv hd=>?_
         match j,hv,hd with
         | 0,hv,hd=>cases hv;cases hd;exact .val _
         | 1,hv,hd=>cases hv;cases hd;exact q2
     ·cases ho
    ·cases ho
   ·cases ho
  ·cases ho
 ·cases ho
theorem acF(h:fj G c H w){al:Al}(fZ:kZ H al){t:TypeId}{k e:TypeId}(hu:P.underlying t=some (.map k e)){x d:D}{δ:Dl}{u:Value}(hr:eV c w u x)(ho:Bx x H al.1=some (d,δ)) :
  ∃ r w',(Instr.range t u).run P w = .ok r w'∧ia G c H w (KO H al d δ) r w':=by
 unfold Bx at ho
 split at ho
 ·rename_i m
  split at ho
  ·rename_i kk es hm
   cases ho
   have rP:=uJ hm
   dsimp only at rP
   cases hr with
   | omap _ Lm wm F5=>
    have pb:=h.ob m _ rP
    simp only[Ob.gen]at pb
    rw[wm]at pb
    simp only[fX]at pb
    obtain⟨_,_,arr,clock,AF,gy,jS,An⟩:=pb
    obtain⟨k1,k2,k3⟩:=Gv h fZ (.mapIter (some Lm.b) clock #[] clock) (.jd (.omap m) es.length []) rfl rfl (fun qO hb=>by
     simp only[fX]
     refine⟨trivial,trivial,Lm.b,qO _ _ (.omap m Lm wm F5),?_⟩
     rw[← An];exact hb)
    exact⟨_,_,run_range_map w t k e Lm.b arr clock hu AF,_,_,_,⟨rfl,rfl⟩,k1,k2,k3⟩
  ·cases ho
 ·cases ho
theorem ad3(h:fj G c H w)(he:jt c w env a){al:Al}(fZ:kZ H al){o:Oper}{io:gC}(hc:o3 P G o=some io){d:D}{δ:Dl}(hk:kY env H al.1 io=some (d,δ)) :
  ∃ v w',xj ((execOp a.eval o).run P w) v w'∧ia G c H w (KO H al d δ) v w':=by
 have plain:∀ {v:Value} {d:D},eV c w v d→ia G c H w (KO H al d .no) v w:=fun hr=>⟨_,_,c,⟨rfl,rfl⟩,h,hr,Step.refl _ _ _ _⟩
 unfold o3 at hc
 split at hc
 ·rename_i t x y ty ho
  split at hc
  ·rename_i il
   simp only[ai]at hc
   obtain⟨X,hX,rfl⟩:=hc
   have hy:y = .const (.slice none 0 0):=by
    have:=il.2
    unfold EP at this
    split at this
    ·rfl
    ·cases this
   subst hy
   obtain⟨nz,rfl⟩:=kB hk
   obtain⟨r,h1,h2⟩:=P' h il.1 (gJ h he hX) nz x (.const (.slice none 0 0))
   exact⟨r,w,by simp only[execOp,ho];exact iC h1,plain h2⟩
  ·cases hc
 ·rename_i t x y ty ho
  split at hc
  ·rename_i il
   simp only[ai]at hc
   obtain⟨X,hX,rfl⟩:=hc
   have hy:y = .const (.slice none 0 0):=by
    have:=il.2
    unfold EP at this
    split at this
    ·rfl
    ·cases this
   subst hy
   obtain⟨nz,rfl⟩:=kB hk
   obtain⟨r,h1,h2⟩:=P' h il.1 (gJ h he hX) nz x (.const (.slice none 0 0))
   exact⟨r,w,by simp only[execOp,ho];exact iC h1,plain h2⟩
  ·cases hc
 ·rename_i t x ho
  split at hc
  ·rename_i X hu hX
   cases hc
   simp only[kY]at hk
   split at hk
   ·rename_i s hs
    cases hk
    have hr:=gJ h he hX
    rw[hs]at hr
    generalize JN:a.eval x=u at hr
    cases hr
    obtain⟨k1,k2,k3⟩:=Gv h fZ (.stringIter s 0) (.pn s 0) rfl rfl (fun _ hb=>by simp only[fX];exact⟨trivial,trivial,hb⟩)
    refine⟨_,_,by simp only[execOp,ho,JN];exact iC (v:=.pointer (some ⟨w.heap.size,0,none⟩)) (w':=w.alloc (.stringIter s 0)) (by simp[Instr.range,run_underlying hu]),_,_,_,⟨rfl,rfl⟩,k1,k2,k3⟩
   ·cases hk
  ·rename_i k e X hu hX
   cases hc
   obtain⟨r,w',h1,h2⟩:=acF (P:=P) h fZ hu (gJ h he hX) hk
   exact⟨r,w',by simp only[execOp,ho];exact iC h1,h2⟩
  ·cases hc
 ·rename_i x ho
  simp only[ai]at hc
  obtain⟨X,hX,rfl⟩:=hc
  obtain⟨r,w',h1,h2⟩:=acC (P:=P) (ty:=o.type) h (gJ h he hX) hk
  exact⟨r,w',by simp only[execOp,ho];exact iC h1,h2⟩
 ·simp only[ai]at hc
  obtain⟨X,hX,rfl⟩:=hc
  cases hk
 ·rename_i x ho
  simp only[ai]at hc
  obtain⟨X,hX,rfl⟩:=hc
  obtain⟨nz,rfl⟩:=kB hk
  obtain⟨r,h1,h2⟩:=acn (P:=P) h (gJ h he hX) nz
  exact⟨r,w,by simp only[execOp,ho];exact iC h1,plain h2⟩
 ·rename_i cl ho
  split at hc
  ·rename_i t x iz lZ pD
   split at hc
   ·rename_i fg
    simp only[ai]at hc
    obtain⟨X,hX,rfl⟩:=hc
    have pE:cl.argTypes = #[t]:=by rw[← bI (xs:=cl.argTypes),lZ]
    have Aj:cl.args = #[x]:=by rw[← bI (xs:=cl.args),pD]
    have hr:=gJ h he hX
    simp only[kY]at hk
    split at hk
    ·rename_i nL
     cases hk
     rw[nL]at hr
     generalize JN:a.eval x=u at hr
     cases hr
     have JH:∃ e,P.underlying t=some (.slice e):=by
      unfold yM at fg
      split at fg
      ·exact⟨_,by assumption⟩
      ·cases fg
     obtain⟨e,hu⟩:=JH
     refine⟨.int .i64 0,w,by rw[sg ho iz,pE,Aj];exact iC (by simp[JN,Builtin.cap_,run_underlying hu,goInt]),plain (.val _)⟩
    ·cases hk
   ·cases hc
  ·rename_i t x iz lZ pD
   have pE:cl.argTypes = #[t]:=by rw[← bI (xs:=cl.argTypes),lZ]
   have Aj:cl.args = #[x]:=by rw[← bI (xs:=cl.args),pD]
   split at hc
   ·rename_i e hu
    split at hc
    ·rename_i z i X hz hi hX
     split at hc
     ·rename_i il
      cases hc
      obtain⟨w',h1,h2⟩:=acj (P:=P) (al:=al) (ty:=o.type) h hu hi hz il.1 il.2 (gJ h he hX) hk
      exact⟨_,w',by rw[sg ho iz,pE,Aj];exact iC (by simpa using h1),h2⟩
     ·cases hc
    ·cases hc
   ·cases hc
  ·rename_i t u x y iz lZ pD
   have pE:cl.argTypes = #[t,u]:=by rw[← bI (xs:=cl.argTypes),lZ]
   have Aj:cl.args = #[x,y]:=by rw[← bI (xs:=cl.args),pD]
   split at hc
   ·rename_i e hu Wh
    split at hc
    ·rename_i z i X Y hz hi hX hY
     split at hc
     ·rename_i il
      cases hc
      obtain⟨r,w',h1,h2⟩:=aca (P:=P) (ty:=o.type) h fZ hu Wh hi hz il.1 il.2 (gJ h he hX) (gJ h he hY) hk
      exact⟨r,w',by rw[sg ho iz,pE,Aj];exact iC (by simpa using h1),h2⟩
     ·cases hc
    ·cases hc
   ·cases hc
  ·cases hc
 ·cases hc
end
end Go.AL
namespace Go.AL
open Go
abbrev FW(ro:Option Nat):Fence:={ Fence.wide with round:=ro }
theorem zH{ro:Option Nat}{n:Nat}{P:Program}{f:FuncId}{args:Array Value}{w:World}{R:Ending→World→Prop}:CallsIn (FW ro) n P f args w R↔Calls P f args w R:=
 callsIn_wide (n:=n)
inductive ko(c:Ctx):List Nat→List Deferred→Prop
 | nil:ko c [] []
 | cons {v:Nat} {vs:List Nat} {ds:List Deferred} (L:Loc) (h1:c.ι v 0=some L) (h2:L.iv=false) (h:ko c vs ds):ko c (v::vs) ({ target:=.collected L.b,args:=#[] }::ds)
theorem ko.mono{c c':Ctx}(e7:∀ v L,c.ι v 0=some L→c'.ι v 0=some L){vs:List Nat}{ds:List Deferred}(h:ko c vs ds):ko c' vs ds:=by
 induction h with
 | nil=>exact .nil
 | cons L h1 h2 _ ih=>exact .cons L (e7 _ _ h1) h2 ih
structure ju(G:GT)(N:Nat)(c:Ctx)(w:World)(s:St)(a:Act):Prop where
 eX:fj G c s.H w
 env:jt c w s.env.get a
 size:N≤a.tmps.size
 marks:ko c s.marks a.defers
def pA(N:Nat):Option Tmp→Bool
 | some d=>decide (d<N)
 | none=>true
def H7(P:Program)(G:GT)(o:Oper):Option gC:=match ly P G o with
 | some op=>some op
 | none=>o3 P G o
def rz(P:Program)(G:GT)(N:Nat)(ops:Array Oper)(o:Oper):Option fC:=
 match H7 P G o with
 | none=>none
 | some op=>if pA N o.dst=true then(match o.guard with
   | none=>some ⟨o.dst,op,none⟩
   | some (j,want)=>match (ops[j]?).bind (·.dst)with
    | some t=>some ⟨o.dst,op,some (t,want)⟩
    | none=>none)else none
def mU(P:Program)(G:GT)(N:Nat)(ops:Array Oper):List Oper→Option (List fC)
 | []=>some []
 | o::r=>match rz P G N ops o,mU P G N ops r with
  | some e,some l=>some (e::l)
  | _,_=>none
section
variable{P:Program}{G:GT}{c:Ctx}{w:World}{env:fO}{a:Act}{N:Nat}
theorem ac3{env:Env}{a:Act}{c:Ctx}{w:World}(he:jt c w env.get a)(hN:N≤a.tmps.size){dst:Option Tmp}(hd:pA N dst=true){v:Value}{d:D}(hr:eV c w v d) :
  jt c w (put env dst d).get (a.put dst v):=by
 cases dst with
 | none=>exact he
 | some t=>
  have ht:t<a.tmps.size:=aL (by simpa[pA]using hd) hN
  intro k
  simp only[put,Env.rE,Act.put]
  split
  ·rename_i e
   subst e
   have:(a.tmps.setIfInBounds t v).getD t undef=v:=by simp[Array.getD,ht]
   rw[this];exact hr
  ·rename_i e
   have:(a.tmps.setIfInBounds t v).getD k undef=a.tmps.getD k undef:=by
    simp only[bR,bG e]
   rw[this];exact he k
theorem Qo{a:Act}{dst:Option Tmp}{v:Value}:(a.put dst v).tmps.size=a.tmps.size:=by
 cases dst<;>simp[Act.put]
theorem put_defers{a:Act}{dst:Option Tmp}{v:Value}:(a.put dst v).defers=a.defers:=by
 cases dst<;>rfl
theorem jt.carry{c c':Ctx}{w w':World}(h:∀ v d,eV c w v d→eV c' w' v d)(he:jt c w env a):jt c' w' env a:=fun k=>h _ _ (he k)
theorem ju.next{c':Ctx}{w':World}{H':U}{s:St}(hs:ju G N c w s a)(eX:fj G c' H' w')(fg:Step s.H.length c s.H w c' H' w'){dst:Option Tmp}(hd:pA N dst=true)
  {v:Value} {d:D} (hr:eV c' w' v d):ju G N c' w' { s with env:=put s.env dst d,H:=H' } (a.put dst v) where
 eX:=eX
 env:=ac3 (hs.env.carry fun _ _ h=>h.nX hs.eX.toHeapOK fg) hs.size hd hr
 size:=by rw[Qo];exact hs.size
 marks:=by
  rw[put_defers]
  refine hs.marks.mono fun v L h=>fg.old v 0 L ?_ h
  rcases bq v s.H.length with h'|h'
  ·exact h'
  ·rw[hs.eX.out v 0 h']at h;cases h
theorem qv(he:jt c w env a){ops:Array Oper}{o:Oper}{g:Option (Nat×Bool)}(hg:match o.guard with
   | none=>g=none
   | some (j,want)=>∃ t,(ops[j]?).bind (·.dst)=some t∧g=some (t,want)) {b:Bool} (h:guardOf env g=some b):Region.wanted o (yielded ops a.tmps)=b:=by
 unfold Region.wanted
 split at hg
 ·rename_i xU
  subst hg
  simp only[guardOf,av]at h
  simp[xU,h]
 ·rename_i j want xU
  obtain⟨t,ht,rfl⟩:=hg
  simp only[guardOf]at h
  split at h
  ·rename_i x hx
   cases h
   have hr:=he t
   rw[hx]at hr
   generalize hv:a.tmps.getD t undef=v at hr
   cases hr
   have gM:a.tmps[t]? = some (.bool x):=by
    rw[bR]at hv
    cases hq:a.tmps[t]? with
    | none=>rw[hq]at hv;simp[undef]at hv
    | some q=>rw[hq]at hv;simpa using hv
   simp only[xU,yielded,ht,Option.bind_some,gM]
   cases x<;>cases want<;>rfl
  ·rename_i vs hx
   cases h
   have hr:=he t
   rw[hx]at hr
   generalize hv:a.tmps.getD t undef=v at hr
   cases hr
   have gM:a.tmps[t]? = some (.tuple vs)∨a.tmps[t]? = none:=by
    rw[bR]at hv
    cases hq:a.tmps[t]? with
    | none=>exact .inr rfl
    | some q=>rw[hq]at hv;exact .inl (by simpa using hv)
   rcases gM with gM|gM<;>simp only[xU,yielded,ht,Option.bind_some,gM]<;>cases want<;>rfl
  ·cases h
theorem MP{o:Oper}{op:gC}(h:H7 P G o=some op):ly P G o=some op∨o3 P G o=some op:=by
 unfold H7 at h
 split at h
 ·cases h;exact .inl (by assumption)
 ·exact .inr h
theorem ML{o:Oper}{io:gC}(hc:ly P G o=some io∨o3 P G o=some io){f:fO}{H:U}{n:Nat}{r:D×Dl}(h:fH f H n io=some r):ly P G o=some io:=by
 refine hc.resolve_right fun h2=>?_
 rw[aef (H8 h2)]at h
 cases h
theorem zP{o:Oper}{io:gC}(hc:ly P G o=some io∨o3 P G o=some io){f:fO}{r:FuncId×List D}(h:iW f io=some r):ly P G o=some io:=by
 refine hc.resolve_right fun h2=>?_
 rw[aeg (H8 h2)]at h
 cases h
theorem tU{ops:Array Oper}{o:Oper}{e:fC}(h:rz P G N ops o=some e) :
  (ly P G o=some e.op∨o3 P G o=some e.op)∧e.dst=o.dst∧(pA N o.dst=true)∧(match o.guard with
   | none=>e.guard=none
   | some (j,want)=>∃ t,(ops[j]?).bind (·.dst)=some t∧e.guard=some (t,want)):=by
 unfold rz at h
 split at h
 ·cases h
 ·rename_i op gv
  split at h
  ·rename_i hd
   split at h
   ·rename_i hg
    cases h
    exact⟨MP gv,rfl,hd,by simp[hg]⟩
   ·rename_i j want hg
    split at h
    ·rename_i t ht
     cases h
     exact⟨MP gv,rfl,hd,t,ht,rfl⟩
    ·cases h
  ·cases h
theorem wG{o:Oper}{io:gC}(h:ly P G o=some io):∀ c,o.op≠.defer c:=by
 intro c hc
 simp[ly,hc]at h
theorem PZ{o:Oper}{io:gC}(h:o3 P G o=some io):∀ c,o.op≠.defer c:=by
 intro c hc
 simp[o3,hc]at h
theorem aeG{ro:Option Nat}{n:Nat}{o:Oper}{s:St}{io:gC}{d:D}{δ:Dl}{next:Act→World→Prop}{Q:Exit→Act→World→Prop}(hs:ju G N c w s a)(hc:o3 P G o=some io)
  (hd:pA N o.dst=true) {al:Al} (fZ:kZ s.H al) (h:kY s.env.get s.H al.1 io=some (d,δ))
  (k:∀ c' w' a',ju G N c' w' { s with env:=put s.env o.dst d,H:=δ.app s.H al } a'→Step s.H.length c s.H w c' (δ.app s.H al) w'→next a' w'):o.wpIn (FW ro) n P a w next Q:=by
 obtain⟨v,w',hy,d',H',c',⟨rfl,rfl⟩,eX,hr,fg⟩:=ad3 (P:=P) hs.eX hs.env fZ hc h
 refine⟨fun _ _=>trivial,?_⟩
 rw[Oper.semAt_plain (FW ro) a.eval o (PZ hc)]
 have hn:=k c' w' (a.put o.dst v) (hs.next eX fg hd hr) fg
 rcases hy with hy|⟨hy,rfl⟩
 ·rw[hy];exact hn
 ·rw[hy];exact hn
theorem aeD{ro:Option Nat}{n:Nat}{o:Oper}{s:St}{x:X}{next:Act→World→Prop}{Q:Exit→Act→World→Prop}(hs:ju G N c w s a)(hc:o3 P G o=some (.nextM x))
  (hd:pA N o.dst=true) {v m since:Nat} {seen:List Nat} {kk:KK} {es:List (Value×D)} (hx:ev s.env.get x = .ptr v 0 0) (hv:s.H[v]? = some (.jd (.omap m) since seen)) (hm:s.H[m]? = some (.map kk es)) (qk:es.length=since)
  (k0:(∀ i,i<es.length→i∈seen)→∀ c' w' a',ju G N c' w' { s with env:=put s.env o.dst (.tup [.b false]) } a'→Step s.H.length c s.H w c' s.H w'→next a' w')
  (k1:∀ i k d,es[i]? = some (k,d)→i ∉ seen→∀ c' w' a',ju G N c' w' { s with env:=put s.env o.dst (.tup [.b true,.val k,d]),H:=s.H.set v (.jd (.omap m) since (seen ++ [i])) } a' →
   Step s.H.length c s.H w c' (s.H.set v (.jd (.omap m) since (seen ++ [i]))) w'→next a' w'):o.wpIn (FW ro) n P a w next Q:=by
 have gv:∃ y,o.op = .next y false∧cX G y=some x:=by
  unfold o3 at hc
  repeat' split at hc
  all_goals first|(cases hc;done)|(simp only[ai]at hc;obtain⟨_,_,hh⟩:=hc;cases hh;done)|skip
  simp only[ai]at hc
  obtain⟨X,hX,hh⟩:=hc
  cases hh
  exact⟨_,by assumption,hX⟩
 obtain⟨y,ho,hX⟩:=gv
 have hr:=gJ hs.eX hs.env hX
 rw[hx]at hr
 generalize hu:a.eval y=u at hr
 cases hr with
 | ptr _ _ _ L e7 gw=>
  have gi:=hs.eX.ob v _ hv
  simp only[Ob.gen]at gi
  rw[e7]at gi
  simp only[fX]at gi
  obtain⟨_,uk,bm,x9,hblk⟩:=gi
  cases x9 with
  | omap _ Lm wm F5=>
   have pb:=hs.eX.ob m _ hm
   simp only[Ob.gen]at pb
   rw[wm]at pb
   simp only[fX]at pb
   obtain⟨_,_,arr,clock,AF,gy,jS,An⟩:=pb
   have mC:clock=since:=by rw[An,qk]
   subst mC
   refine⟨fun _ _=>trivial,?_⟩
   rw[Oper.semAt_plain (FW ro) a.eval o (PZ hc)]
   have IY:∀ e∈arr.toList,e.born<clock:=by
    intro e he
    obtain⟨i,hi⟩:=aD.1 he
    have qe:i<es.length:=by rw[← gy];have:=(ae.1 hi).1;simpa using this
    have:=(jS i e es[i] (by simpa using hi) (by simp[qe])).2.2
    omega
   have OQ:=next_test_false seen.toArray arr clock clock IY (Nat.le_refl _)
   have hold:(leftOf arr seen.toArray).filter (fun e=>decide (e.born<clock))=leftOf arr seen.toArray:=by
    apply Array.filter_eq_self.2
    intro e he
    simp only[decide_eq_true_eq]
    exact IY e (by simpa using (dJ.1 he).1)
   have kT:(leftOf arr seen.toArray).filter (fun e=>decide (e.born≥clock)) = #[]:=by
    apply Array.filter_eq_empty_iff.2
    intro e he
    have:=IY e (by simpa using (dJ.1 he).1)
    simp;omega
   have Od:∀ w1:World,w1.heap=w.heap→(getObj L.b).run P w1 = .ok (.mapIter (some Lm.b) clock seen.toArray clock) w1:=fun w1 h1=>by simp[getObj,Sem.run,h1,hblk]
   have Oe:∀ w1:World,w1.heap=w.heap→(getObj Lm.b).run P w1 = .ok (.map arr clock) w1:=fun w1 h1=>by simp[getObj,Sem.run,h1,AF]
   have kb:∀ e,e∈(leftOf arr seen.toArray).toList→∃ i k d,es[i]? = some (k,d)∧i ∉ seen∧e.key=k∧eV c w e.val d∧e.born=i:=by
    intro e he
    have vP:e∈arr∧(!seen.toArray.contains e.born)=true:=by
     have:=dJ.1 (show e∈leftOf arr seen.toArray by simpa using he)
     exact this
    obtain⟨i,hi⟩:=aD.1 (show e∈arr.toList by simpa using vP.1)
    have qe:i<es.length:=by rw[← gy];have:=(ae.1 hi).1;simpa using this
    obtain⟨q1,q2,q3⟩:=jS i e es[i] (by simpa using hi) (by simp[qe])
    refine⟨i,es[i].1,es[i].2,by simp[qe],?_,q1,q2,q3⟩
    have:=vP.2
    rw[q3]at this
    simpa using this
   by_cases kz:(leftOf arr seen.toArray) = #[]
   ·have gS:(execOp a.eval o).run P w = .ok (.value (.tuple #[.bool false])) w:=by
     have h2:(Instr.next (.pointer (some ⟨L.b,0,none⟩)) false o.type).run P w = .ok (.tuple #[.bool false]) w:=by
      have AA:(arr.filter fun e => !(seen.toArray).contains e.born) = #[]:=kz
      simp only[Instr.next,Sem.run_bind,Od w rfl,Result.andThen_ok,Oe w rfl,OQ,bH,if_false,Sem.run_pure,AA]
      simp[choose,Sem.run,Question.forced]
     simp only[execOp,ho,hu]
     rw[uk]
     simp[h2]
    rw[gS]
    refine k0 (fun i hi=>?_) c w _ (hs.next hs.eX (Step.refl _ _ _ _) hd (.tup [.bool false] _ rfl fun j v d hv hd=>?_)) (Step.refl _ _ _ _)
    ·by_cases fF:i∈seen
     ·exact fF
     ·exfalso
      have vT:i<arr.size:=by omega
      have UP:=(jS i arr[i] es[i] (by simp[vT]) (by simp[hi])).2.2
      have:arr[i]∈leftOf arr seen.toArray:=by
       refine dJ.2 ⟨Array.getElem_mem _,?_⟩
       rw[UP];simpa using fF
      rw[kz]at this
      simp at this
    ·match j,hv,hd with
     | 0,hv,hd=>cases hv;cases hd;exact .val _
   ·have gd:(leftOf arr seen.toArray).isEmpty=false:=by
     cases hq:(leftOf arr seen.toArray).isEmpty with
     | false=>rfl
     | true=>exact absurd (Array.isEmpty_iff.1 hq) kz
    have jr:0<(leftOf arr seen.toArray).size:=by
     rcases ea (leftOf arr seen.toArray).size with h|h
     ·exact absurd (Array.eq_empty_of_size_eq_zero h) kz
     ·exact h
    have o9:∃ (i:Nat) (w1:World),i<(leftOf arr seen.toArray).size∧iM w w1∧w1.heap=w.heap∧(choose (.mapNext (leftOf arr seen.toArray).size)).run P w = .ok i w1:=by
     by_cases hf:(Question.mapNext (leftOf arr seen.toArray).size).forced=true
     ·exact⟨0,w,jr,iM.refl w,rfl,by simp[choose,Sem.run,hf]⟩
     ·exact⟨w.tape w.drawn (.mapNext (leftOf arr seen.toArray).size) % (leftOf arr seen.toArray).size,{ w with drawn:=w.drawn+1 },Nat.mod_lt _ jr,iM.drew w,rfl,by simp[choose,Sem.run,hf,Question.cut]⟩
    obtain⟨i,w1,hi,Of,Vj,UY⟩:=o9
    obtain⟨i',k,d,h1,h2,h3,h4,h5⟩:=kb (leftOf arr seen.toArray)[i] (by simp)
    have wg:=hs.eX.nq Of
    obtain⟨m1,m2⟩:=B8 wg hv rfl rfl (ob':=.jd (.omap m) clock (seen ++ [i'])) rfl e7 gw (.mapIter (some Lm.b) clock (seen ++ [i']).toArray clock) (fun w' qQ qO=>by
     simp only[fX]
     exact⟨gw,uk,Lm.b,.omap m Lm wm F5,qQ⟩)
    have fg:Step s.H.length c s.H w c (s.H.set v (.jd (.omap m) clock (seen ++ [i']))) { w1 with heap:=w1.heap.setIfInBounds L.b (.mapIter (some Lm.b) clock (seen ++ [i']).toArray clock) }:=(yQ _ Of).trans m2 (Nat.le_refl _)
    have gS:(execOp a.eval o).run P w = .ok (.value (.tuple #[.bool true,k,(leftOf arr seen.toArray)[i].val])) { w1 with heap:=w1.heap.setIfInBounds L.b (.mapIter (some Lm.b) clock (seen ++ [i']).toArray clock) }:=by
     have mg:(setObj L.b (.mapIter (some Lm.b) clock (seen ++ [i']).toArray clock)).run P w1 = .ok () { w1 with heap:=w1.heap.setIfInBounds L.b (.mapIter (some Lm.b) clock (seen ++ [i']).toArray clock) }:=by
      simp[setObj,Sem.run,Vj,hblk]
     have h2:(Instr.next (.pointer (some ⟨L.b,0,none⟩)) false o.type).run P w = .ok (.tuple #[.bool true,k,(leftOf arr seen.toArray)[i].val]) { w1 with heap:=w1.heap.setIfInBounds L.b (.mapIter (some Lm.b) clock (seen ++ [i']).toArray clock) }:=by
      have AA:(arr.filter fun e => !(seen.toArray).contains e.born)=leftOf arr seen.toArray:=rfl
      have ic:((if (leftOf arr seen.toArray).isEmpty then #[none]else #[])++(leftOf arr seen.toArray ++ #[]).map some)=(leftOf arr seen.toArray).map some:=by simp[gd]
      simp only[Instr.next,Sem.run_bind,Od w rfl,Result.andThen_ok,Oe w rfl,OQ,bH,if_false,Sem.run_pure,AA,hold,kT,ic,Array.size_map,UY]
      have Vf:((leftOf arr seen.toArray).map some)[i]? = some (some (leftOf arr seen.toArray)[i]):=by simp[hi]
      simp only[Vf,Sem.run_bind]
      rw[h5,show seen.toArray.push i'=(seen ++ [i']).toArray by simp,mg]
      simp[h3]
     simp only[execOp,ho,hu]
     rw[uk]
     simp[h2]
    rw[gS]
    refine k1 i' k d h1 h2 c _ _ (hs.next m1 fg hd (.tup [.bool true,k,(leftOf arr seen.toArray)[i].val] _ rfl fun j v d hv hd=>?_)) fg
    match j,hv,hd with
    | 0,hv,hd=>cases hv;cases hd;exact .val _
    | 1,hv,hd=>cases hv;cases hd;exact .val _
    | 2,hv,hd=>cases hv;cases hd;exact h4.nX hs.eX.toHeapOK fg
theorem aeE{ro:Option Nat}{n:Nat}{o:Oper}{s:St}{io:gC}{d:D}{δ:Dl}{next:Act→World→Prop}{Q:Exit→Act→World→Prop}(hs:ju G N c w s a)(hc:ly P G o=some io)
  (hd:pA N o.dst=true) {al:Al} (fZ:kZ s.H al) (h:fH s.env.get s.H al.1 io=some (d,δ))
  (k:∀ c' w' a',ju G N c' w' { s with env:=put s.env o.dst d,H:=δ.app s.H al } a'→Step s.H.length c s.H w c' (δ.app s.H al) w'→next a' w'):o.wpIn (FW ro) n P a w next Q:=by
 obtain⟨v,w',hy,d',H',c',⟨rfl,rfl⟩,eX,hr,fg⟩:=Ql (P:=P) (K:=fun d' H'=>d'=d∧H'=δ.app s.H al) hs.eX hs.env fZ hc (Mj h ⟨rfl,rfl⟩)
 refine⟨fun _ _=>trivial,?_⟩
 rw[Oper.semAt_plain (FW ro) a.eval o (wG hc)]
 have hn:=k c' w' (a.put o.dst v) (hs.next eX fg hd hr) fg
 rcases hy with hy|⟨hy,rfl⟩
 ·rw[hy];exact hn
 ·rw[hy];exact hn
