/- Part 10 of DisputeLocal. -/
import Derived.Test.YtmehofoficaelaaGreatDoorL09
set_option linter.all false
namespace Go.AL
open Go
universe u
inductive Tag{α:Sort u}(a:α):Type
 | mk
def oA{α:Type}(x:Option α)(P:α→Prop)(_:Tag P):Prop:=∃ a,x=some a∧P a
@[simp] theorem wj{α:Type}(a:α)(P:α→Prop):oA (some a) P .mk=P a:=by simp[oA]
@[simp] theorem Se{α:Type}(P:α→Prop):oA none P .mk=False:=by simp[oA]
@[simp high] theorem yh{α:Type}{c:Prop}[Decidable c](x:Option α)(P:α→Prop):oA (if c then x else none) P .mk=(c∧oA x P .mk):=by
 by_cases h:c<;>simp[h]
@[simp] theorem aod{α:Type}{c:Prop}[Decidable c](x y:Option α)(P:α→Prop):oA (if c then x else y) P .mk=((c→oA x P .mk)∧(¬c→oA y P .mk)):=by
 by_cases h:c<;>simp[h]
@[simp] theorem aoe(x:Option D)(P:D×Dl→Prop):oA (lift x) P .mk=oA x (fun d=>P (d,.no)) .mk:=by
 cases x<;>simp[lift]
@[simp] theorem an1{α β:Type}(x:Option α)(f:α→Option β)(P:β→Prop):oA (x.bind f) P .mk=oA x (fun a=>oA (f a) P .mk) .mk:=by
 cases x<;>simp
def gB:D→Bool→Option Bool
 | .val (.bool b),want=>some (b == want)
 | .val (.tuple _),_=>some false
 | _,_=>none
@[simp] theorem alX(want:Bool):gB (.val undef) want=some false:=rfl
@[simp] theorem alW(x:Bool):gB (.b x) true=some x:=by cases x<;>rfl
@[simp] theorem alV(x:Bool):gB (.b x) false=some (!x):=by cases x<;>rfl
@[simp] theorem al1(f:gd):guardOf f none=some true:=rfl
@[simp] theorem al2(f:gd)(j:Nat)(w:Bool):guardOf f (some (j,w))=gB (f j) w:=by
 show(match f j with | .val (.bool b)=>some (b == w) | .val (.tuple _)=>some false|_=>none)=gB (f j) w
 unfold gB;split<;>simp_all
@[simp] theorem alq(f:gd)(k:Nat):ev f (.t k)=f k:=rfl
@[simp] theorem alp(f:gd)(d:D):ev f (.c d)=d:=rfl
@[simp] theorem apa(env:Env)(k:Nat)(d:D):put env (some k) d=(k,d)::env:=rfl
@[simp] theorem ao9(env:Env)(d:D):put env none d=env:=rfl
@[simp] theorem ajj(H:U)(al:Al):Dl.no.app H al=H:=rfl
@[simp] theorem aji(H:U)(al:Al)(ob:Ob):(Dl.new ob).app H al=al.2 ob:=rfl
@[simp] theorem ajk(H:U)(al:Al)(v:Nat)(ob:Ob):(Dl.obj v ob).app H al=H.set v ob:=rfl
def setCells(H:U)(v o:Nat)(xs:List D):Option Ob→U
 | some (.row t g cs)=>H.set v (.row t g (cs.take o++xs++cs.drop (o+xs.length)))
 | _=>H
@[simp] theorem ajg(H:U)(al:Al)(v o:Nat)(xs:List D):(Dl.cells v o xs).app H al=setCells H v o xs H[v]? := by
 show(match H[v]? with|some (.row t g cs)=>H.set v (.row t g (cs.take o++xs++cs.drop (o+xs.length)))|_=>H)=_
 unfold setCells;split<;>simp_all
@[simp] theorem apE(H:U)(v o:Nat)(xs:List D)(t g:Nat)(cs:List D):setCells H v o xs (some (.row t g cs))=H.set v (.row t g (cs.take o++xs++cs.drop (o+xs.length))):=rfl
def uR(k:IntKind)(a b:Int):Int:=k.wrap (a*2 ^ (min b.toNat k.bits))
def mA(k:IntKind)(a b:Int):Int:=a.fdiv (2 ^ (min b.toNat k.bits))
section
variable{k:IntKind}{a b:Int}
@[simp] theorem ajz:kd .add (.val (.int k a)) (.val (.int k b))=jl .add k a b:=by simp[kd,oi]
@[simp] theorem ajP:kd .sub (.val (.int k a)) (.val (.int k b))=jl .sub k a b:=by simp[kd,oi]
@[simp] theorem ajH:kd .mul (.val (.int k a)) (.val (.int k b))=jl .mul k a b:=by simp[kd,oi]
@[simp] theorem ajK:kd .quo (.val (.int k a)) (.val (.int k b))=jl .quo k a b:=by simp[kd,oi]
@[simp] theorem ajL:kd .rem (.val (.int k a)) (.val (.int k b))=jl .rem k a b:=by simp[kd,oi]
@[simp] theorem ajA:kd .and (.val (.int k a)) (.val (.int k b))=some (.val (.int k (bits .and k a b))):=by simp[kd,oi,jl]
@[simp] theorem ajJ:kd .or (.val (.int k a)) (.val (.int k b))=some (.val (.int k (bits .or k a b))):=by simp[kd,oi,jl]
@[simp] theorem ajQ:kd .xor (.val (.int k a)) (.val (.int k b))=some (.val (.int k (bits .xor k a b))):=by simp[kd,oi,jl]
@[simp] theorem ajB:kd .andNot (.val (.int k a)) (.val (.int k b))=some (.val (.int k (bits .andNot k a b))):=by simp[kd,oi,jl]
@[simp] theorem ajC:kd .eql (.val (.int k a)) (.val (.int k b))=some (.b (decide (a=b))):=by simp[kd,oi,jl,BEq.beq]
@[simp] theorem ajI:kd .neq (.val (.int k a)) (.val (.int k b))=some (.b (!decide (a=b))):=by simp[kd,oi,jl,bne,BEq.beq]
@[simp] theorem ajG:kd .lss (.val (.int k a)) (.val (.int k b))=some (.b (decide (a<b))):=by simp[kd,oi,jl]
@[simp] theorem ajF:kd .leq (.val (.int k a)) (.val (.int k b))=some (.b (decide (a≤b))):=by simp[kd,oi,jl]
@[simp] theorem ajE:kd .gtr (.val (.int k a)) (.val (.int k b))=some (.b (decide (a>b))):=by simp[kd,oi,jl]
@[simp] theorem ajD:kd .geq (.val (.int k a)) (.val (.int k b))=some (.b (decide (a≥b))):=by simp[kd,oi,jl]
@[simp] theorem ajM{k2:IntKind}:kd .shl (.val (.int k a)) (.val (.int k2 b))=if 0≤b then some (.val (.int k (uR k a b)))else none:=rfl
@[simp] theorem ajN{k2:IntKind}:kd .shr (.val (.int k a)) (.val (.int k2 b))=if 0≤b then some (.val (.int k (mA k a b)))else none:=rfl
@[simp] theorem ajO(op:BinOp)(s t:ByteArray):kd op (.val (.string s)) (.val (.string t))=Av op s t:=rfl
@[simp] theorem aq7(x:Bool):Ax .not (.b x)=some (.b !x):=rfl
@[simp] theorem aq6(n:Int):Ax .neg (.i n)=if mI (-n)then some (.i (-n))else none:=rfl
@[simp] theorem alc(k':IntKind):GL k' (.val (.int k a))=some (.val (.int k' (k'.wrap a))):=rfl
end
@[simp] theorem alv(off v g o:Nat):BB off (.ptr v g o)=some (.ptr v g (o+off)):=rfl
@[simp] theorem alu(off:Nat)(cs:List D):BB off (.fj cs)=some (.fj (cs.drop off)):=rfl
@[simp] theorem alw(off n:Nat)(cs:List D):xk off n true (.agg cs)=if off+n≤cs.length then some (.agg ((cs.drop off).take n))else none:=rfl
@[simp] theorem alx(off n:Nat)(cs:List D):xk off n false (.agg cs)=cs[off]? := rfl
@[simp] theorem alr(ds:List D)(i:Nat):G6 (.tup ds) i=ds[i]? := rfl
@[simp] theorem anK(v g o:Nat):ye (.ptr v g o)=some (.ptr v g o):=rfl
@[simp] theorem anJ(cs:List D):ye (.fj cs)=some (.fj cs):=rfl
@[simp] theorem anI(f:FuncId)(a b:List D):ye (.fn (.func f) a b)=some (.fn (.func f) a b):=rfl
@[simp] theorem anL(v:Nat):ye (.iA v)=some (.iA v):=rfl
def rowOf(k:Nat):Option Ob→Option (TypeId×List D)
 | some (.row t g cs)=>if g=k then some (t,cs)else none
 | _=>none
@[simp] theorem afN(H:U)(v k:Nat):rowAt H v k=rowOf k H[v]? := by
 unfold rowAt rowOf;split<;>simp_all
@[simp] theorem apD(k:Nat)(t:TypeId)(g:Nat)(cs:List D):rowOf k (some (.row t g cs))=if g=k then some (t,cs)else none:=rfl
@[simp] theorem amR(v g o:Nat)(H:U):tl (.ptr v g o) H=(rowAt H v g).bind fun p=>p.2[o]? := by
 show(match rowAt H v g with|some (_,cs)=>cs[o]? | none=>none)=_
 cases rowAt H v g<;>rfl
@[simp] theorem amQ(cs:List D)(H:U):tl (.fj cs) H=cs[0]? := rfl
def ry(n o:Nat):Option (TypeId×List D)→Option D
 | some p=>if o+n≤p.2.length then some (.agg ((p.2.drop o).take n))else none
 | none=>none
@[simp] theorem amY(n o:Nat):ry n o none=none:=rfl
@[simp low] theorem amZ(n o:Nat)(p:TypeId×List D):ry n o (some p)=if o+n≤p.2.length then some (.agg ((p.2.drop o).take n))else none:=rfl
@[simp] theorem amT(n v g o:Nat)(H:U):tm n (.ptr v g o) H=ry n o (rowAt H v g):=by
 show(match rowAt H v g with|some (_,cs)=>if o+n≤cs.length then some (D.agg ((cs.drop o).take n))else none|none=>none)=_
 cases rowAt H v g<;>rfl
@[simp] theorem amS(n:Nat)(cs:List D)(H:U):tm n (.fj cs) H=if n≤cs.length then some (.agg (cs.take n))else none:=rfl
@[simp] theorem aqA(v g o:Nat)(x:D)(H:U):yF (.ptr v g o) x H=(rowAt H v g).bind fun p=>if o<p.2.length∧one x=true then some (.any,.cells v o [x])else none:=by
 show(match rowAt H v g with|some (_,cs)=>if o<cs.length∧one x=true then some (D.any,Dl.cells v o [x])else none|none=>none)=_
 cases rowAt H v g<;>rfl
@[simp] theorem aqB(n v g o:Nat)(xs:List D)(H:U):yG n (.ptr v g o) (.agg xs) H=(rowAt H v g).bind fun p=>if xs.length=n∧o+n≤p.2.length then some (.any,.cells v o xs)else none:=by
 show(match rowAt H v g with|some (_,cs)=>if xs.length=n∧o+n≤cs.length then some (D.any,Dl.cells v o xs)else none|none=>none)=_
 cases rowAt H v g<;>rfl
@[simp] theorem ajU(t:TypeId)(cs:List D)(n:Nat):qq t (.agg cs) n=some (.ptr n 0 0,.new (.row t 0 cs)):=rfl
@[simp] theorem akc(cs:List D):cellsOf (.agg cs)=some cs:=rfl
@[simp] theorem akn(k:IntKind)(n:Int):cellsOf (.val (.int k n))=some [.val (.int k n)]:=rfl
@[simp] theorem akd(b:Bool):cellsOf (.b b)=some [.b b]:=rfl
@[simp] theorem aks(b:ByteArray):cellsOf (.val (.string b))=some [.val (.string b)]:=rfl
@[simp] theorem akr(sz:Nat)(es:List (List D)):cellsOf (.sl sz es)=some [.sl sz es]:=rfl
@[simp] theorem akf(l:List Int):cellsOf (dI l)=some [dI l]:=rfl
@[simp] theorem akh(l:List Pos):cellsOf (gA l)=some [gA l]:=rfl
@[simp] theorem akg(l:List fe):cellsOf (gS l)=some [gS l]:=rfl
@[simp] theorem akk:cellsOf .eU=some [.eU]:=rfl
@[simp] theorem akp(v g sz off n:Nat):cellsOf (.eX v g sz off n)=some [.eX v g sz off n]:=rfl
@[simp] theorem akq(v g o:Nat):cellsOf (.ptr v g o)=some [.ptr v g o]:=rfl
@[simp] theorem akm(cs:List D):cellsOf (.fj cs)=some [.fj cs]:=rfl
@[simp] theorem ako(v:Nat):cellsOf (.gF v)=some [.gF v]:=rfl
@[simp] theorem akl(f:Fn)(a b:List D):cellsOf (.fn f a b)=some [.fn f a b]:=rfl
@[simp] theorem aoQ(k:IntKind)(n:Int):one (.val (.int k n))=true:=rfl
@[simp] theorem aoH(b:Bool):one (.b b)=true:=rfl
@[simp] theorem aoV(b:ByteArray):one (.val (.string b))=true:=rfl
@[simp] theorem aoU(sz:Nat)(es:List (List D)):one (.sl sz es)=true:=rfl
@[simp] theorem aoJ(l:List Int):one (dI l)=true:=rfl
@[simp] theorem aoL(l:List Pos):one (gA l)=true:=rfl
@[simp] theorem aoK(l:List fe):one (gS l)=true:=rfl
@[simp] theorem aoN:one .eU=true:=rfl
@[simp] theorem aoS(v g sz off n:Nat):one (.eX v g sz off n)=true:=rfl
@[simp] theorem aoT(v g o:Nat):one (.ptr v g o)=true:=rfl
@[simp] theorem aoP(cs:List D):one (.fj cs)=true:=rfl
@[simp] theorem aoR(v:Nat):one (.gF v)=true:=rfl
@[simp] theorem aoO(f:Fn)(a b:List D):one (.fn f a b)=true:=rfl
@[simp] theorem aj4(f:gd)(z:List D)(ps:List (Nat×Nat×X)):y9 f z ps=(partsOf f ps).bind fun l=>(lay l z).bind fun cs=>some (D.agg cs):=by
 unfold y9;cases partsOf f ps with
 | none=>rfl
 | some l=>simp only[Option.bind_some];cases lay l z<;>rfl
@[simp] theorem aj3(f:gd)(t sz:Nat)(z:List D)(m:Nat)(ps:List (Nat×X))(n:Nat):vh f t sz z m ps n=(partsOf f (ps.map fun p=>(p.1*sz,sz,p.2))).bind fun l=>(lay l (List.replicate m z).flatten).bind fun cs=>some (.eX n 0 sz 0 m,.new (.row t 0 cs)):=by
 unfold vh;cases partsOf f (ps.map fun p=>(p.1*sz,sz,p.2))with
 | none=>rfl
 | some l=>simp only[Option.bind_some];cases lay l (List.replicate m z).flatten<;>rfl
@[simp] theorem ao3(f:gd):partsOf f []=some []:=rfl
@[simp] theorem ao2(f:gd)(o n:Nat)(x:X)(r:List (Nat×Nat×X)):partsOf f ((o,n,x)::r)=(cellsOf (ev f x)).bind fun cs=>(partsOf f r).bind fun l=>some ((o,n,cs)::l):=by
 show(match cellsOf (ev f x),partsOf f r with|some cs,some l=>some ((o,n,cs)::l)|_,_=>none)=_
 cases cellsOf (ev f x)<;>cases partsOf f r<;>rfl
@[simp] theorem Y1(vs:List Value)(k:IntKind)(n:Int):mz 1 (.lA vs) (.val (.int k n))=if 0≤n∧n<vs.length then some (.fj [.val (vs.getD n.toNat undef)])else none:=by
 simp[mz]
@[simp] theorem am5(vs:List Value)(H:U):oj .slice (.lA vs) H=some (.i vs.length):=rfl
@[simp] theorem amb(sz v g off len:Nat)(k:IntKind)(n:Int):mz sz (.eX v g sz off len) (.val (.int k n))=if 0≤n∧n<len then some (.ptr v g ((off+n.toNat)*sz))else none:=by
 simp[mz]
@[simp] theorem amd(sz n v g o:Nat)(k:IntKind)(i:Int):Cr sz n (.ptr v g o) (.val (.int k i))=if 0≤i∧i<n then some (.ptr v g (o+i.toNat*sz))else none:=rfl
@[simp] theorem amc(sz n:Nat)(cs:List D)(k:IntKind)(i:Int):Cr sz n (.fj cs) (.val (.int k i))=if 0≤i∧i<n then some (.fj (cs.drop (i.toNat*sz)))else none:=rfl
@[simp] theorem ame(sz n:Nat)(b:Bool)(cs:List D)(k:IntKind)(i:Int):HW sz n b (.agg cs) (.val (.int k i))=if 0≤i∧i<n then xk (i.toNat*sz) sz b (.agg cs)else none:=rfl
@[simp] theorem ajT(f:gd)(n:Int):gy f none n=some n:=rfl
def uD:D→Option Int
 | .val (.int _ n)=>some n
 | _=>none
@[simp] theorem amg(k:IntKind)(n:Int):uD (.val (.int k n))=some n:=rfl
@[simp] theorem Uu(f:gd)(x:X)(n:Int):gy f (some x) n=uD (ev f x):=by
 show(match ev f x with | .val (.int _ n)=>some n|_=>none)=_
 unfold uD;split<;>simp_all
@[simp] theorem M0(f:gd)(sz:Nat)(es:List (List D))(lo hi:Option X):qS f sz (.sl sz es) lo hi=(gy f lo 0).bind fun l=>(gy f hi es.length).bind fun h=>if 0≤l∧l≤h∧h≤es.length then some (.sl sz ((es.drop l.toNat).take (h.toNat-l.toNat)))else none:=by
 simp only[qS]
 cases gy f lo 0<;>cases gy f hi es.length<;>simp
@[simp] theorem aqq(f:gd)(sz v g off len:Nat)(lo hi:Option X):qS f sz (.eX v g sz off len) lo hi=(gy f lo 0).bind fun l=>(gy f hi len).bind fun h=>if 0≤l∧l≤h∧h≤len then some (.eX v g sz (off+l.toNat) (h.toNat-l.toNat))else none:=by
 simp only[qS]
 cases gy f lo 0<;>cases gy f hi len<;>simp
@[simp] theorem aqp(f:gd)(sz:Nat)(lo hi:Option X):qS f sz .eU lo hi=(gy f lo 0).bind fun l=>(gy f hi 0).bind fun h=>if l=0∧h=0 then some .eU else none:=by
 simp only[qS]
 cases gy f lo 0<;>cases gy f hi 0<;>simp
@[simp] theorem agc(f:gd)(sz:Nat)(es:List (List D))(lo:Option X)(hi mx:X):yC f sz (.sl sz es) lo hi mx=(gy f lo 0).bind fun l=>(uD (ev f hi)).bind fun h=>(uD (ev f mx)).bind fun m=>if 0≤l∧l≤h∧h=m∧m≤es.length then some (clip sz ((es.drop l.toNat).take (h.toNat-l.toNat)))else none:=by
 simp only[yC,Uu]
 cases gy f lo 0<;>cases uD (ev f hi)<;>cases uD (ev f mx)<;>simp
@[simp] theorem aql(f:gd)(sz n v g o:Nat)(lo hi:Option X)(H:U):wE f sz n (.ptr v g o) lo hi H=(gy f lo 0).bind fun l=>(gy f hi n).bind fun h=>(rowAt H v g).bind fun p=>if o % sz=0∧o+n*sz≤p.2.length∧n≤16777216∧0≤l∧l≤h∧h≤n then some (.eX v g sz (o / sz+l.toNat) (h.toNat-l.toNat))else none:=by
 simp only[wE]
 cases gy f lo 0 with
 | none=>rfl
 | some l=>cases gy f hi n with
  | none=>rfl
  | some h=>dsimp only;cases rowAt H v g<;>rfl
def IV{α:Type}(f:α→List D)(l:List α)(a b:Nat):((l.map f).drop a).take b=((l.drop a).take b).map f:=by rw[List.map_take,eO]
@[simp] theorem aqn(f:gd)(l:List Pos)(lo hi:Option X):qS f 5 (gA l) lo hi=(gy f lo 0).bind fun a=>(gy f hi l.length).bind fun h=>if 0≤a∧a≤h∧h≤l.length then some (gA ((l.drop a.toNat).take (h.toNat-a.toNat)))else none:=by
 unfold gA;rw[M0,List.length_map];simp only[IV]
@[irreducible] def cl{α:Type}(f:α→List D)(l:List α):List D:=(l.map f).flatten
theorem nI{α:Type}(f:α→List D)(l:List α):cl f l=(l.map f).flatten:=by rw[cl]
@[simp] theorem agh(sz:Nat)(H:U)(es:List (List D)):j' sz H (.sl sz es)=some (es.flatten,es.length):=by simp[j']
@[simp] theorem Ap{α:Type}(sz:Nat)(f:α→List D)(H:U)(l:List α):j' sz H (.sl sz (l.map f))=some (cl f l,l.length):=by
 rw[agh,List.length_map,nI]
@[simp] theorem aqr(H:U)(l:List Int):j' 1 H (dI l)=some (cl f1 l,l.length):=by unfold dI;exact Ap ..
@[simp] theorem aqv(H:U)(l:List Pos):j' 5 H (gA l)=some (cl Pos.cells l,l.length):=by unfold gA;exact Ap ..
@[simp] theorem aqu(H:U)(l:List fe):j' 2 H (gS l)=some (cl fS l,l.length):=by unfold gS;exact Ap ..
@[simp] theorem aqs{α:Type}(sz:Nat)(f:α→List D)(H:U)(l:List α):j' sz H (dN sz f l)=some (cl f l,l.length):=by
 cases l with
 | nil=>show some ([],0)=_;rw[nI];rfl
 | cons a l=>exact Ap sz f H (a::l)
@[simp] theorem aqx(sz:Nat)(H:U):j' sz H .eU=some ([],0):=rfl
@[simp] theorem aqz(sz:Nat)(H:U)(v g off len:Nat):j' sz H (.eX v g sz off len)=(rowAt H v g).bind fun p=>if (off+len)*sz≤p.2.length then some ((p.2.drop (off*sz)).take (len*sz),len)else none:=by
 simp only[j']
 cases rowAt H v g<;>simp
@[simp] theorem ajl(t sz bytes v g len:Nat)(y:D)(H:U)(vn:Nat):pX t sz bytes (.eX v g sz 0 len) y H vn=(j' sz H y).bind fun q=>(rowAt H v g).bind fun r=>if r.1=t∧len*sz≤r.2.length∧(len+q.2)*bytes≤140737488355328∧len+q.2≤9223372036854775807 then some (.eX v (g+1) sz 0 (len+q.2),.obj v (.row t (g+1) (r.2.take (len*sz)++q.1)))else none:=by
 simp only[pX]
 cases j' sz H y with
 | none=>rfl
 | some q=>cases rowAt H v g<;>simp
@[simp] theorem Ub(t bytes:Nat)(vs:List Value)(y:D)(H:U)(vn:Nat):pX t 1 bytes (.lA vs) y H vn=(j' 1 H y).bind fun q=>if q.2≠0∧(vs.length+q.2)*bytes≤140737488355328∧vs.length+q.2≤9223372036854775807 then some (.eX vn 0 1 0 (vs.length+q.2),.new (.row t 0 (vs.map .val++q.1)))else none:=by
 simp only[pX]
 cases j' 1 H y<;>simp
@[simp] theorem ajh(t sz bytes:Nat)(y:D)(H:U)(vn:Nat):pX t sz bytes .eU y H vn=(j' sz H y).bind fun q=>if q.2=0 then some (.eU,.no)else if q.2*bytes≤140737488355328∧q.2≤9223372036854775807 then some (.eX vn 0 sz 0 q.2,.new (.row t 0 q.1))else none:=by
 simp only[pX]
 cases j' sz H y<;>rfl
@[simp] theorem anF(t sz bytes:Nat)(z:List D)(k k':IntKind)(n m:Int)(v:Nat):Aa t sz bytes z (.val (.int k n)) (.val (.int k' m)) v=if 0≤n∧n≤m∧oZ m 9223372036854775807∧oZ ((bytes:Int)*m) 281474976710656 then some (.eX v 0 sz 0 n.toNat,.new (.row t 0 (List.replicate m.toNat z).flatten))else none:=rfl
@[simp] theorem am1(n:Int)(k:Nat):oZ n k=(n≤(k:Int)):=rfl
@[simp] theorem ami(f:gd):pr f []=some []:=rfl
def LD:D→Option Int
 | .val (.int .i64 n)=>some n
 | _=>none
@[simp] theorem ama(n:Int):LD (.i n)=some n:=rfl
@[simp] theorem amh(f:gd)(x:X)(r:List X):pr f (x::r)=(LD (ev f x)).bind fun n=>(pr f r).bind fun l=>some (n::l):=by
 show(match ev f x,pr f r with | .val (.int .i64 n),some l=>some (n::l)|_,_=>none)=_
 unfold LD
 split
 ·rename_i h1 h2;rw[h1,h2];rfl
 ·rename_i h
  split
  ·rename_i n hn
   cases hl:pr f r with
   | none=>rfl
   | some l=>exact absurd hl (h _ _ hn)
  ·rfl
def Mg(isMax:Bool):List Int→Option D
 | [a,b]=>some (.i (if isMax then max a b else min a b))
 | [a,b,c]=>some (.i (if isMax then max (max a b) c else min (min a b) c))
 | _=>none
@[simp] theorem mm2(m:Bool)(a b:Int):Mg m [a,b]=some (.i (if m then max a b else min a b)):=rfl
@[simp] theorem anE(f:gd)(m:Bool)(xs:List X):z' f m xs=(pr f xs).bind (Mg m):=by
 unfold z'
 cases pr f xs with
 | none=>rfl
 | some l=>simp only[Option.bind_some];unfold Mg;split<;>simp_all
@[simp] theorem aj6(f:gd)(g:FuncId)(args:List X):jN f (.call g args)=some (g,args.map (ev f)):=rfl
def Gs(args:List D):D→Option (FuncId×List D)
 | .fn (.func k) first cap=>some (k,first++args++cap)
 | _=>none
@[simp] theorem aj5(args:List D)(k:FuncId)(first cap:List D):Gs args (.fn (.func k) first cap)=some (k,first++args++cap):=rfl
@[simp] theorem UB(f:gd)(g:X)(args:List X):jN f (.callv g args)=Gs (args.map (ev f)) (ev f g):=by
 show(match ev f g with | .fn (.func k) first cap=>some (k,first++args.map (ev f)++cap)|_=>none)=_
 unfold Gs;split<;>simp_all
def LW(z:D)(ok:Bool):Option D→D
 | some d=>if ok then .tup [d,.b true]else d
 | none=>if ok then .tup [z,.b false]else z
@[simp] theorem anq(z:D)(ok:Bool)(d:D):LW z ok (some d)=if ok then .tup [d,.b true]else d:=rfl
@[simp] theorem anp(z:D)(ok:Bool):LW z ok none=if ok then .tup [z,.b false]else z:=rfl
@[simp] theorem anr(kk:KK)(z:D)(ok:Bool)(v:Nat)(k:D)(H:U):xZ kk z ok (.gF v) k H=(keyOf k).bind fun kv=>(lT H v).bind fun p=>if p.1=kk∧p.1.has kv=true then some (LW z ok (o4 p.2 kv))else none:=by
 unfold xZ
 cases keyOf k with
 | none=>rfl
 | some kv=>
  cases h:lT H v with
  | none=>simp[h]
  | some p=>
   simp only[h,Option.bind_some]
   split
   ·cases o4 p.2 kv<;>rfl
   ·rfl
@[simp] theorem anD(kk:KK)(v:Nat)(k x:D)(H:U):wh kk (.gF v) k x H=(keyOf k).bind fun kv=>(lT H v).bind fun p=>if p.1=kk∧p.1.has kv=true then some (.any,.obj v (.map p.1 (lK p.2 kv x)))else none:=by
 unfold wh
 cases keyOf k with
 | none=>rfl
 | some kv=>cases h:lT H v<;>simp[h]
def mapOf:Option Ob→Option (KK×List (Value×D))
 | some (.map kk es)=>some (kk,es)
 | _=>none
@[simp] theorem anC(kk:KK)(es:List (Value×D)):mapOf (some (.map kk es))=some (kk,es):=rfl
@[simp] theorem anB(H:U)(v:Nat):lT H v=mapOf H[v]? := by
 unfold lT mapOf;split<;>simp_all
@[simp] theorem amJ(k:IntKind)(n:Int):ru (.int k n) = .val (.int k n):=rfl
@[simp] theorem amK(s:ByteArray):ru (.string s) = .val (.string s):=rfl
@[simp] theorem amI(b:Bool):ru (.bool b) = .b b:=rfl
@[simp] theorem amN(s:ByteArray):keyOf (.val (.string s))=some (.string s):=rfl
@[simp] theorem amL(b:Bool):keyOf (.b b)=some (.bool b):=rfl
@[simp] theorem amM(k:IntKind)(n:Int):keyOf (.val (.int k n))=some (.int k n):=rfl
@[simp] theorem aln(ls:List nC)(neg:Bool)(x y:D):xe false ls neg x y=(l8 ls [x] [y]).bind fun r=>some (.b (if neg then !r else r)):=by
 simp only[xe]
 cases l8 ls [x] [y]<;>rfl
@[simp] theorem alm(ls:List nC)(neg:Bool)(x y:List D):xe true ls neg (.agg x) (.agg y)=(l8 ls x y).bind fun r=>some (.b (if neg then !r else r)):=by
 simp only[xe]
 cases l8 ls x y<;>rfl
@[simp] theorem akb:l8 [] [] []=some true:=rfl
@[simp] theorem aka(l:nC)(ls:List nC)(x y:D)(xs ys:List D):l8 (l::ls) (x::xs) (y::ys)=(rK l x y).bind fun a=>(l8 ls xs ys).bind fun b=>some (a&&b):=by
 show(match rK l x y,l8 ls xs ys with|some a,some b=>some (a&&b)|_,_=>none)=_
 cases rK l x y<;>cases l8 ls xs ys<;>rfl
@[simp] theorem aj8(a b:Int):rK .int (.i a) (.i b)=some (decide (a=b)):=by simp[rK,BEq.beq]
@[simp] theorem aj7(a b:Bool):rK .bool (.b a) (.b b)=some (a == b):=rfl
@[simp] theorem aj9(a b:ByteArray):rK .str (.val (.string a)) (.val (.string b))=some (a.data.toList == b.data.toList):=rfl
attribute [simp] fO kill rC Ai fX jm rM sv q5 qZ lu Ik lay Al.last o4 lK mV KK.has fE
@[simp] theorem arj(v g sz off n:Nat):mh (.eX v g sz off n) = [(v,none)]:=rfl
@[simp] theorem ari(v:Nat):mh (.gF v) = [(v,none)]:=rfl
@[simp] theorem arl(sz:Nat)(es:List (List D)):mh (.sl sz es) = []:=rfl
@[simp] theorem arf:mh .eU = []:=rfl
@[simp] theorem arn(v:Value):mh (.val v) = []:=rfl
@[simp] theorem arb(cs:List D):mh (.agg cs) = []:=rfl
@[simp] theorem arh(cs:List D):mh (.fj cs) = []:=rfl
@[simp] theorem ark(v g o:Nat):mh (.ptr v g o) = []:=rfl
@[simp] theorem ard(l:List Int):mh (dI l) = []:=by unfold dI;rfl
def XB(d:D)(P Q:Prop)(_:Tag (PProd.mk P Q)):Prop:=∃ x,d = .b x∧(x=true→P)∧(x=false→Q)
def X2(x:Bool)(P Q:Prop)(_:Tag (PProd.mk P Q)):Prop:=(x=true→P)∧(x=false→Q)
@[simp] theorem aha(P Q:Prop):X2 true P Q .mk=P:=by simp[X2]
@[simp] theorem ag7(P Q:Prop):X2 false P Q .mk=Q:=by simp[X2]
@[simp] theorem ag8(x:Bool)(P Q:Prop):X2 (!x) P Q .mk=X2 x Q P .mk:=by cases x<;>simp[X2]
@[simp] theorem ag9(x y:Bool)(P Q:Prop):X2 (!x || !y) P Q .mk=X2 (x&&y) Q P .mk:=by cases x<;>cases y<;>simp[X2]
theorem X2.d{p:Prop}[Decidable p]{P Q:Prop}(h:p→P)(k:¬p→Q):X2 (decide p) P Q .mk:=⟨fun e=>h (of_decide_eq_true e),fun e=>k (of_decide_eq_false e)⟩
def X2.a{p q:Prop}[Decidable p][Decidable q]{P Q:Prop}(h:p→q→P)(k:¬(p∧q)→Q):X2 (decide p&&decide q) P Q .mk:=by
 rw[← cD];exact X2.d (fun e=>h e.1 e.2) k
def X2.o{p q:Prop}[Decidable p][Decidable q]{P Q:Prop}(h:p∨q→P)(k:¬(p∨q)→Q):X2 (decide p||decide q) P Q .mk:=by
 rw[← eG];exact X2.d h k
def X2.z{p:Prop}[Decidable p]{P Q:Prop}(h:¬p)(k:Q):X2 (decide p) P Q .mk:=X2.d (fun n=>absurd n h) (fun _=>k)
@[simp] theorem ahc(x:Bool)(a b:D)(P Q:Prop):XB (bif x then a else b) P Q .mk=X2 x (XB a P Q .mk) (XB b P Q .mk) .mk:=by
 cases x<;>simp
def X2.b{x:Bool}{P Q:Prop}(h:x=true→P)(k:x=false→Q):X2 x P Q .mk:=⟨h,k⟩
def Xg{p q:Prop}(b:q)(a:p:=by first|omega|assumption):p∧q:=⟨a,b⟩
@[simp] theorem ahb(x:Bool)(P Q:Prop):XB (.b x) P Q .mk=X2 x P Q .mk:=by
 cases x<;>simp[XB,X2]
@[simp high] theorem ahe(P Q:Prop):XB (.b true) P Q .mk=P:=by simp[XB]
@[simp high] theorem ahd(P Q:Prop):XB (.b false) P Q .mk=Q:=by simp[XB]
def XG(g:Option Bool)(P Q:Prop)(_:Tag (PProd.mk P Q)):Prop:=∃ x,g=some x∧(x=true→P)∧(x=false→Q)
@[simp] theorem ahu(x:Bool)(P Q:Prop):XG (some x) P Q .mk=X2 x P Q .mk:=by
 cases x<;>simp[XG,X2]
@[simp high] theorem ahx(P Q:Prop):XG (some true) P Q .mk=P:=by simp[XG]
@[simp high] theorem ahw(P Q:Prop):XG (some false) P Q .mk=Q:=by simp[XG]
@[simp] theorem ahv(x w:Bool)(a b:D)(P Q:Prop):XG (gB (bif x then a else b) w) P Q .mk=X2 x (XG (gB a w) P Q .mk) (XG (gB b w) P Q .mk) .mk:=by
 cases x<;>simp
def kp(s:St)(dst:Option Nat)(K:St→Prop):D×Dl→Prop:=fun p=>K { s with env:=put s.env dst p.1,H:=p.2.app s.H (Al.last s.H) }
def kt(s:St)(dst:Option Nat)(R:List Fp)(Q:Rc→St→Prop):D×Dl→Prop:=fun p=>Q ⟨R,jm s.H.length p.2⟩ { s with env:=put s.env dst p.1,H:=p.2.app s.H (Al.last s.H) }
section
variable(T:gP)
def fG(f:FuncId)(args:List D)(dst:Option Nat)(s:St)(K:St→Prop)(_:Tag (dst,s,K)):Prop:=
 (∃ fn,T.fn f=some fn∧fn.full=false∧Wf T f (args.map (e7 (fun _=>none) s.H 40)) [] fun d Hn=>oA (after s dst args d Hn) K .mk) ∨
 (∃ fn,T.fn f=some fn∧fn.full=true∧Wf T f args s.H fun d H'=>K { s with env:=put s.env dst d,H:=H' })
def iC(f:FuncId)(args:List D)(R:List Fp)(dst:Option Nat)(s:St)(Q:Rc→St→Prop)(_:Tag (dst,s,Q)):Prop:=
 ∃ fn d,T.fn f=some fn∧fn.full=false∧Wf T f (args.map (e7 (fun _=>none) s.H 40)) [] (fun d' Hn=>d'=d∧Hn = [])∧(if fE args then closed d else flat d)=true∧Q ⟨R,[]⟩ { s with env:=put s.env dst d }
def sO(f:FuncId)(args:List D)(R:List Fp)(dst:Option Nat)(s:St)(Q:Rc→St→Prop)(t:Tag (dst,s,Q)):Prop:=
 iC T f args R dst s Q t∨∃ fn d ob,T.fn f=some fn∧fn.full=false∧Wf T f (args.map (e7 (fun _=>none) s.H 40)) [] (fun d' Hn=>d'=d∧Hn = [ob]) ∧
  (if fE args then lU d&&mL ob else np d&&oe ob)=true∧Q ⟨R,[(s.H.length,none)]⟩ { s with env:=put s.env dst (jK s.H.length d),H:=s.H ++ [ob] }
def qX(f:FuncId)(args:List D)(R:List Fp)(dst:Option Nat)(s:St)(Q:Rc→St→Prop)(t:Tag (dst,s,Q)):Prop:=
 sO T f args R dst s Q t∨∃ fn d v,T.fn f=some fn∧fn.full=false∧(∀ u∈(args.map (gX s.H 40)).flatten,u=v)∧v∈(args.map (gX s.H 40)).flatten∧(rowsOf s.H v).isSome=true ∧
  fE (args.map (e7 (fun _=>none) s.H 40))=true∧Wf T f (args.map (e7 (fun _=>none) s.H 40)) [] (fun d' Hn=>d'=d∧Hn = [])∧closed d=true∧Q ⟨R,[(v,none)]⟩ { s with env:=put s.env dst d,H:=s.H.set v .dead }
def yp(v rf:Nat)(dst:Option Nat)(s:St)(K:St→Prop):iv:=fun o=>∃ kj,o.st.H[v]? = some (.gL rf kj .busy)∧K { s with env:=put s.env dst (.b !o.stop),H:=o.st.H.set v (.gL rf kj o.wA) }
def pU(v:Nat)(args:List D)(dst:Option Nat)(s:St)(K:St→Prop)(_:Tag (dst,s,K)):Prop:=
 ∃ rf env0 Rd,s.H[v]? = some (.gL rf env0 .ready)∧T.round rf=some Rd∧args.length=Rd.params.length ∧
  Wc T Rd.a { env:=qQ Rd.params args env0,H:=s.H,gZ:=true } fun o=>∃ s1 kA,o = .norm s1∧s1.H[v]? = some (.gL rf kA .ready)∧Wc T Rd.b { s1 with H:=s1.H.set v (.gL rf kA .busy) } (yp v rf dst s K)
def sN(d:D)(args:List D)(dst:Option Nat)(s:St)(K:St→Prop)(t:Tag (dst,s,K)):Prop:=
 match d with
 | .iA v=>pU T v args dst s K t
 | d=>oA (Gs args d) (fun p=>fG T p.1 p.2 dst s K t) .mk
def y4(x:D)(dst:Option Nat)(s:St)(K:St→Prop)(_:Tag (dst,s,K)):Prop:=
 ∃ v m since seen kk es,x = .ptr v 0 0∧s.H[v]? = some (.lL (.gF m) since seen)∧s.H[m]? = some (.map kk es)∧es.length=since ∧
  ((∀ i,i<es.length→i∈seen)→K { s with env:=put s.env dst (.tup [.b false]) }) ∧
  (∀ i k d,es[i]? = some (k,d)→i ∉ seen→K { s with env:=put s.env dst (.tup [.b true,ru k,d]),H:=s.H.set v (.lL (.gF m) since (seen ++ [i])) })
def ik(op:ij)(dst:Option Nat)(s:St)(K:St→Prop):Prop:=
 match op with
 | .call f args=>fG T f (args.map (ev s.env.get)) dst s K .mk
 | .callN f args=>fG T f (args.map (ev s.env.get)) dst s K .mk
 | .callv f args=>sN T (ev s.env.get f) (args.map (ev s.env.get)) dst s K .mk
 | .nilS a b=>oA (lu s.env.get s.H s.H.length (.nilS a b)) (kp s dst K) .mk
 | .capE a=>oA (lu s.env.get s.H s.H.length (.capE a)) (kp s dst K) .mk
 | .appZ a b c d e f=>oA (lu s.env.get s.H s.H.length (.appZ a b c d e f)) (kp s dst K) .mk
 | .clr a b c=>oA (lu s.env.get s.H s.H.length (.clr a b c)) (kp s dst K) .mk
 | .rangeS a=>oA (lu s.env.get s.H s.H.length (.rangeS a)) (kp s dst K) .mk
 | .nextS a=>oA (lu s.env.get s.H s.H.length (.nextS a)) (kp s dst K) .mk
 | .rangeM a=>oA (lu s.env.get s.H s.H.length (.rangeM a)) (kp s dst K) .mk
 | .entry a=>oA (lu s.env.get s.H s.H.length (.entry a)) (kp s dst K) .mk
 | .mapEnt a b c d=>oA (lu s.env.get s.H s.H.length (.mapEnt a b c d)) (kp s dst K) .mk
 | .entSt a b c=>oA (lu s.env.get s.H s.H.length (.entSt a b c)) (kp s dst K) .mk
 | .nextM a=>y4 (ev s.env.get a) dst s K .mk
 | op=>oA (fO s.env.get s.H s.H.length op) (kp s dst K) .mk
def jk(op:ij)(dst:Option Nat)(s:St)(Q:Rc→St→Prop):Prop:=
 match op with
 | .call f args=>iC T f (args.map (ev s.env.get)) (fX s.env.get s.H (.call f args)) dst s Q .mk
 | .callN f args=>qX T f (args.map (ev s.env.get)) (fX s.env.get s.H (.callN f args)) dst s Q .mk
 | .callv f args=>oA (jN s.env.get (.callv f args)) (fun p=>iC T p.1 p.2 (fX s.env.get s.H (.callv f args)) dst s Q .mk) .mk
 | op=>oA (fO s.env.get s.H s.H.length op) (kt s dst (fX s.env.get s.H op) Q) .mk
def XO:List ff→St→(St→Prop)→Prop
 | [],s,K=>K s
 | e::r,s,K=>XG (guardOf s.env.get e.guard) (ik T e.op e.dst s fun s'=>XO r s' K) (XO r { s with env:=put s.env e.dst (.val undef) } K) .mk
def XT:List ff→St→(List Rc→St→Prop)→Prop
 | [],s,K=>K [] s
 | e::r,s,K=>XG (guardOf s.env.get e.guard) (jk T e.op e.dst s fun rc s'=>XT r s' fun rs s2=>K (rc::rs) s2) (XT r { s with env:=put s.env e.dst (.val undef) } fun rs s2=>K (⟨[],[]⟩::rs) s2) .mk
end
section
variable{T:gP}
def Ml{α:Type}{x:Option α}{P Q:α→Prop}{t:Tag P}{u:Tag Q}(h:oA x P t)(hi:∀ a,P a→Q a):oA x Q u:=by
 obtain⟨a,h1,h2⟩:=h;exact⟨a,h1,hi a h2⟩
theorem fG.mono{f:FuncId}{args:List D}{dst:Option Nat}{s:St}{K K':St→Prop}{t:Tag (dst,s,K)}{u:Tag (dst,s,K')}(h:fG T f args dst s K t)(hi:∀ s,K s→K' s):fG T f args dst s K' u:=by
 rcases h with⟨fn,hf,hp,h⟩|⟨fn,hf,hp,h⟩
 ·exact .inl ⟨fn,hf,hp,Wf.mono h fun d Hn h=>Ml h hi⟩
 ·exact .inr ⟨fn,hf,hp,Wf.mono h fun d H h=>hi _ h⟩
theorem pU.mono{v:Nat}{args:List D}{dst:Option Nat}{s:St}{K K':St→Prop}{t:Tag (dst,s,K)}{u:Tag (dst,s,K')}(h:pU T v args dst s K t)(hi:∀ s,K s→K' s):pU T v args dst s K' u:=by
 obtain⟨rf,env0,Rd,hv,hR,hl,h⟩:=h
 exact⟨rf,env0,Rd,hv,hR,hl,h.mono fun o ⟨s1,kA,he,h1,h2⟩=>⟨s1,kA,he,h1,h2.mono fun o ⟨kj,h3,h4⟩=>⟨kj,h3,hi _ h4⟩⟩⟩
theorem sN.mono{d:D}{args:List D}{dst:Option Nat}{s:St}{K K':St→Prop}{t:Tag (dst,s,K)}{u:Tag (dst,s,K')}(h:sN T d args dst s K t)(hi:∀ s,K s→K' s):sN T d args dst s K' u:=by
 unfold sN at h ⊢
 split at h
 ·exact pU.mono h hi
 ·exact Ml h fun p hp=>fG.mono hp hi
def y4.mono{x:D}{dst:Option Nat}{s:St}{K K':St→Prop}{t:Tag (dst,s,K)}{u:Tag (dst,s,K')}(h:y4 x dst s K t)(hi:∀ s,K s→K' s):y4 x dst s K' u:=by
 obtain⟨v,m,since,seen,kk,es,h1,h2,h3,h4,h5,h6⟩:=h
 exact⟨v,m,since,seen,kk,es,h1,h2,h3,h4,fun h=>hi _ (h5 h),fun i k d e1 e2=>hi _ (h6 i k d e1 e2)⟩
theorem ik.mono{op:ij}{dst:Option Nat}{s:St}{K K':St→Prop}(h:ik T op dst s K)(hi:∀ s,K s→K' s):ik T op dst s K':=by
 unfold ik at h ⊢
 split at h<;>first
  | exact fG.mono h hi
  | exact sN.mono h hi
  | exact y4.mono h hi
  | exact Ml h fun p hp=>hi _ hp
theorem XO.mono:∀ {l:List ff} {s:St} {K K':St→Prop},XO T l s K→(∀ s,K s→K' s)→XO T l s K'
 | [],s,K,K',h,hi=>hi s h
 | e::r,s,K,K',h,hi=>by
  obtain⟨x,hg,ht,hf⟩:=h
  exact⟨x,hg,fun e=>ik.mono (ht e) fun s' h=>XO.mono h hi,fun e=>XO.mono (hf e) hi⟩
def fG.wo{f:FuncId}{args:List D}{s:St}{K:St→Prop}{e:ff}{r:List ff}(hg:guardOf s.env.get e.guard=some true)(hc:jN s.env.get e.op=some (f,args))(h:fG T f args e.dst s (fun s'=>Wo T r s' K) .mk):Wo T (e::r) s K:=by
 rcases h with⟨fn,hf,hp,h⟩|⟨fn,hf,hp,h⟩
 ·refine Ev.Bf hg hc hf hp h (fun d Hn hd=>?_) fun d Hn s' hd gw=>?_
  ·obtain⟨d',H',he,s',hs,hk⟩:=hd
   cases he;rw[hs];rfl
  ·obtain⟨d',H',he,s2,hs,hk⟩:=hd
   cases he
   rw[hs]at gw;cases gw
   exact hk
 ·exact Ev.Be hg hc hf hp h fun d H' hd=>by
   obtain⟨d',H2,he,hk⟩:=hd
   cases he;exact hk
theorem XO.tG{l2:List ff}{K:St→Prop}:∀ {l:List ff} {s:St},XO T l s (fun s'=>Wo T l2 s' K)→Wo T (l++l2) s K
 | [],s,h=>h
 | e::r,s,h=>by
  obtain⟨x,hg,ht,hf⟩:=h
  cases x with
  | false=>exact Wo.off hg (XO.tG (hf rfl))
  | true=>
   have h:=ht rfl
   have plain:oA (fO s.env.get s.H s.H.length e.op) (kp s e.dst fun s'=>XO T r s' fun s'=>Wo T l2 s' K) .mk→Wo T (e::r++l2) s K:=fun⟨⟨d,δ⟩,hd,hk⟩=>Wo.op hg hd (XO.tG hk)
   have sp:oA (lu s.env.get s.H s.H.length e.op) (kp s e.dst fun s'=>XO T r s' fun s'=>Wo T l2 s' K) .mk→Wo T (e::r++l2) s K:=fun⟨⟨d,δ⟩,hd,hk⟩=>Wo.yD hg hd (XO.tG hk)
   have call:∀ f args,jN s.env.get e.op=some (f,args)→fG T f args e.dst s (fun s'=>XO T r s' fun s'=>Wo T l2 s' K) .mk→Wo T (e::r++l2) s K:=fun f args hc hx=>by
    refine fG.wo hg hc ?_
    rcases hx with⟨fn,hf,hp,h⟩|⟨fn,hf,hp,h⟩
    ·exact .inl ⟨fn,hf,hp,Wf.mono h fun d Hn ⟨s',h1,h2⟩=>⟨s',h1,XO.tG h2⟩⟩
    ·exact .inr ⟨fn,hf,hp,Wf.mono h fun d Hn h1=>XO.tG h1⟩
   unfold ik at h
   split at h
   case h_1 f args he=>exact call _ _ (by rw[he];rfl) h
   case h_2 f args he=>exact call _ _ (by rw[he];rfl) h
   case h_3 f args he=>
    unfold sN at h
    split at h
    ·rename_i v hv
     obtain⟨rf,env0,Rd,ng,hR,hl,h⟩:=h
     have hy:yieldOf s.env.get e.op=some (v,args.map (ev s.env.get)):=by rw[he];simp only[yieldOf,hv]
     refine Ev.Gr hg hy ng hR hl h (fun o ⟨o',e1,s1,kA,e2,h1,h2⟩=>?_) (Rb:=PO (yp v rf e.dst s fun s'=>XO T r s' fun s'=>Wo T l2 s' K)) (fun s1 kA ⟨o',e1,s2,kj,e2,h1,h2⟩ h3=>?_) (fun o ⟨o',e1,kj,h1,h2⟩=>?_) fun o kj ⟨o',e1,alk,h1,h2⟩ h3=>?_
     ·cases e1;subst e2;exact⟨rfl,kA,h1⟩
     ·cases e1;cases e2
      rw[h1]at h3;cases h3;exact h2
     ·cases e1;exact⟨kj,h1⟩
     ·cases e1
      rw[h1]at h3;cases h3
      exact XO.tG h2
    ·rename_i hn
     obtain⟨p,hp,h⟩:=h
     exact call p.1 p.2 (by rw[he,UB];exact hp) h
   case h_14 a he=>
    obtain⟨v,m,since,seen,kk,es,h1,h2,h3,h4,h5,h6⟩:=h
    exact Ev.next hg he h1 h2 h3 h4 (fun k=>XO.tG (h5 k)) fun i k d e1 e2=>XO.tG (h6 i k d e1 e2)
   case h_15=>exact plain h
   all_goals (rename_i he;exact sp (by rw[he];exact h))
def XO.wo{l:List ff}{s:St}{K:St→Prop}(h:XO T l s K):Wo T l s K:=by
 have:=XO.tG (l2:=[]) (K:=K) (XO.mono h fun s' k=>Wo.nil k)
 rwa [aA]at this
theorem XT.wt:∀ {l:List ff} {s:St} {K:List Rc→St→Prop},XT T l s K→Wt T l s K
 | [],s,K,h=>Wt.nil h
 | e::r,s,K,h=>by
  obtain⟨x,hg,ht,hf⟩:=h
  cases x with
  | false=>exact Wt.off hg (XT.wt (hf rfl))
  | true=>
   have h:=ht rfl
   have call:∀ f args,jN s.env.get e.op=some (f,args)→iC T f args (fX s.env.get s.H e.op) e.dst s (fun rc s'=>XT T r s' fun rs s2=>K (rc::rs) s2) .mk→Wt T (e::r) s K:=fun f args hc ⟨fn,d,hf,hp,hw,gj,hk⟩=>
    Ev.Dr hg hc hf hp hw (fun d' Hn ⟨d2,H2,he,hd⟩=>by cases he;exact hd) gj (XT.wt hk) fun rs s' ⟨S8,s2,he,k⟩=>by cases he;exact⟨_,_,rfl,k⟩
   unfold jk at h
   split at h
   case h_1 f args he=>exact call _ _ (by rw[he];rfl) (by rw[he];exact h)
   case h_2 f args he=>
    rcases h with(h|⟨fn,d,ob,hf,hp,hw,gj,hk⟩)|⟨fn,d,v,hf,hp,hS,hv,gH,gj,hw,hr,hk⟩
    ·exact call _ _ (by rw[he];rfl) (by rw[he];exact h)
    ·exact Ev.Ds hg he rfl hf hp hw (fun d' Hn ⟨d2,H2,he,hd⟩=>by cases he;exact hd) gj (XT.wt hk) fun rs s' ⟨S8,s2,e2,k⟩=>by cases e2;rw[he];exact⟨_,_,rfl,k⟩
    ·exact Ev.Dt hg he rfl hf hp hS hv gH gj hw (fun d' Hn ⟨d2,H2,he,hd⟩=>by cases he;exact hd) hr (XT.wt hk) fun rs s' ⟨S8,s2,e2,k⟩=>by cases e2;rw[he];exact⟨_,_,rfl,k⟩
   case h_3 f args he=>obtain⟨p,hp,h⟩:=h;exact call p.1 p.2 (by rw[he];exact hp) (by rw[he];exact h)
   case h_4=>obtain⟨⟨d,δ⟩,hd,hk⟩:=h;exact Wt.op hg hd (XT.wt hk)
end
def kG:IR→IR
 | .seq a b=>.seq (kG a) (kG b)
 | .cond c a b=>.cond c (kG a) (kG b)
 | .block id live a=>.block id live (kG a)
 | .loop live a=>.loop live (kG a)
 | .fz _ a=>kG a
 | .rR _ a b=>.ops (a++b)
 | c=>c
def qK:IR→Bool
 | .seq a b=>qK a&&qK b
 | .cond _ a b=>qK a&&qK b
 | .block _ _ a=>qK a
 | .loop _ a=>qK a
 | .fz _ _=>false
 | .rR _ _ _=>false
 | _=>true
theorem nY:∀ {c:IR},qK c=true→kG c=c
 | .seq a b,h=>by simp only[qK,ah]at h;rw[kG,nY h.1,nY h.2]
 | .cond _ a b,h=>by simp only[qK,ah]at h;rw[kG,nY h.1,nY h.2]
 | .block _ _ a,h=>by rw[kG,nY (c:=a) h]
 | .loop _ a,h=>by rw[kG,nY (c:=a) h]
 | .fz _ _,h=>by cases h
 | .rR _ _ _,h=>by cases h
 | .skip,_ | .ops _,_ | .kK _ _,_ | .lP _ _ _,_ | .lZ _ _ _,_ | .exit _,_ | .ret,_ | .bad,_=>rfl
def ln(k:Nat):List ff→Bool
 | { dst:=some j,.. }::_=>decide (j=k)
 | _=>false
def iu(k:Nat)(S:List Nat):IR→IR
 | .ops l=>bif ln k l then .fz S (.ops l)else .ops l
 | .kK p l=>bif ln k l then .fz S (.kK p l)else .kK p l
 | .lP p l e=>bif ln k l then .fz S (.lP p l e)else .lP p l e
 | .seq a b=>.seq (iu k S a) (iu k S b)
 | .cond c a b=>.cond c (iu k S a) (iu k S b)
 | .block id live a=>.block id live (iu k S a)
 | .loop live a=>.loop live (iu k S a)
 | .fz S' a=>.fz S' (iu k S a)
 | c=>c
theorem wG(k:Nat)(S:List Nat):∀ c:IR,kG (iu k S c)=kG c
 | .ops l=>by unfold iu;cases ln k l<;>rfl
 | .kK p l=>by unfold iu;cases ln k l<;>rfl
 | .lP p l e=>by unfold iu;cases ln k l<;>rfl
 | .seq a b=>by simp only[iu,kG,wG k S a,wG k S b]
 | .cond c a b=>by simp only[iu,kG,wG k S a,wG k S b]
 | .block id live a=>by simp only[iu,kG,wG k S a]
 | .loop live a=>by simp only[iu,kG,wG k S a]
 | .fz S' a=>by simp only[iu,kG,wG k S a]
 | .skip | .lZ _ _ _ | .exit _ | .ret | .bad | .rR _ _ _=>rfl
def mj(k:Nat):List ff→List ff
 | []=>[]
 | e::r=>bif ln k [e]then []else e::mj k r
def mn(k:Nat):List ff→List ff
 | []=>[]
 | e::r=>bif ln k [e]then e::r else mn k r
def mG(k:Nat):List ff→Bool
 | []=>false
 | e::r=>ln k [e]||mG k r
theorem OA(k:Nat):∀ l:List ff,mj k l++mn k l=l
 | []=>rfl
 | e::r=>by unfold mj mn;cases ln k [e]<;>simp[OA k r]
def jJ(k:Nat)(S:List Nat):IR→IR
 | .ops l=>bif mG k l then .rR S (mj k l) (mn k l)else .ops l
 | .seq a b=>.seq (jJ k S a) (jJ k S b)
 | .cond c a b=>.cond c (jJ k S a) (jJ k S b)
 | .block id live a=>.block id live (jJ k S a)
 | .loop live a=>.loop live (jJ k S a)
 | .fz S' a=>.fz S' (jJ k S a)
 | c=>c
theorem wH(k:Nat)(S:List Nat):∀ c:IR,kG (jJ k S c)=kG c
 | .ops l=>by unfold jJ;cases mG k l<;>simp[kG,OA]
 | .seq a b=>by simp only[jJ,kG,wH k S a,wH k S b]
 | .cond c a b=>by simp only[jJ,kG,wH k S a,wH k S b]
 | .block id live a=>by simp only[jJ,kG,wH k S a]
 | .loop live a=>by simp only[jJ,kG,wH k S a]
 | .fz S' a=>by simp only[jJ,kG,wH k S a]
 | .skip | .lZ _ _ _ | .exit _ | .ret | .bad | .rR _ _ _ | .kK _ _ | .lP _ _ _=>rfl
def fh(T:gP)(live:List Nat)(a:IR)(s:St)(K:iv)(_:Tag (live,a,s,K)):Prop:=Wc T (.loop live (kG a)) s K
def wV(T:gP)(rf:Nat)(live:List Nat)(x:X)(s:St)(K:iv)(_:Tag (live,x,s,K)):Prop:=Wc T (.lZ rf live x) s K
@[irreducible] def tq(m S:List Nat):Bool:=m.all fun v => !S.contains v
theorem CI(m S:List Nat):tq m S=m.all fun v => !S.contains v:=by unfold tq;rfl
@[simp] theorem Z9(S:List Nat):tq [] S=true:=by rw[CI];rfl
@[simp] theorem anA(v:Nat)(m S:List Nat):tq (v::m) S=(!decide (v∈S)&&tq m S):=by rw[CI,CI,List.all_cons,List.contains_eq_mem]
def Jp:D→List Nat
 | .agg cs=>(cs.map (iH 0)).flatten
 | _=>[]
@[simp] theorem ajc(cs:List D):Jp (.agg cs)=(cs.map (iH 0)).flatten:=rfl
def oC(env:Env):List Nat→List Nat
 | []=>[]
 | v::r=>if v<1000 then v::oC env r else if v<2000 then iH 0 (env.get (v-1000))++oC env r else Jp (env.get (v-2000))++oC env r
@[simp] theorem alU(env:Env):oC env [] = []:=rfl
@[simp] theorem alT(env:Env)(v:Nat)(r:List Nat):oC env (v::r)=if v<1000 then v::oC env r else if v<2000 then iH 0 (env.get (v-1000))++oC env r else Jp (env.get (v-2000))++oC env r:=rfl
def XC(T:gP):IR→St→iv→Prop
 | .skip,s,K=>K (.norm s)
 | .ops l,s,K=>XO T l s fun s'=>K (.norm s')
 | .kK iW l,s,K=>XT T l s fun rs s'=>sv iW rs=true∧K (.norm s')
 | .lP iW l es,s,K=>XT T l s fun rs s'=>sv iW rs=true∧XO T es s' fun s'=>K (.norm s')
 | .seq a b,s,K=>XC T a s fun o=>match o with
  | .norm s'=>XC T b s' K
  | o=>K o
 | .cond c a b,s,K=>XB (ev s.env.get c) (XC T a s K) (XC T b s K) .mk
 | .block id live a,s,K=>XC T a s fun o=>K (l7 id s.H.length live o)
 | .loop live a,s,K=>fh T live a s K .mk
 | .lZ rf live x,s,K=>wV T rf live x s K .mk
 | .exit id,s,K=>K (.exit id s)
 | .ret,s,K=>K (.ret s)
 | .bad,_,_=>False
 | .fz S a,s,K=>tq s.marks (oC s.env S)=true∧XC T a (kX (oC s.env S) s) K
 | .rR S a b,s,K=>XO T a s fun s'=>tq s'.marks (oC s'.env S)=true∧XO T b (kX (oC s'.env S) s') fun s'=>K (.norm s')
def Iu(T:gP)(b:IR)(K:iv):iv:=fun o=>match o with
 | .norm s'=>XC T b s' K
 | o=>K o
def wW(id n:Nat)(live:List Nat)(K:iv):iv:=fun o=>K (l7 id n live o)
section
variable{T:gP}
theorem Wc.kX{c:IR}{s:St}{K:iv}(S:List Nat)(hm:tq s.marks S=true)(h:Wc T c (kX S s) K):Wc T c s K:=Ev.BE S (by rwa [CI]at hm) h
theorem XC.wc:∀ {c:IR} {s:St} {K:iv},XC T c s K→Wc T (kG c) s K
 | .skip,s,K,h=>Wc.skip h
 | .ops l,s,K,h=>Wc.ops (XO.wo h)
 | .kK iW l,s,K,h=>Wc.kK (XT.wt h)
 | .lP iW l es,s,K,h=>Wc.lP (Ev.mono (XT.wt h) fun _ ⟨rs,s',q,k⟩=>⟨rs,s',q,k.1,XO.wo k.2⟩)
 | .seq a b,s,K,h=>Wc.seq ((XC.wc (c:=a) h).mono fun o ho=>by
  cases o with
  | norm s'=>exact XC.wc (c:=b) ho
  | exit=>exact ho
  | ret=>exact ho)
 | .cond _ _ _,_,_,h=>by
  obtain⟨x,hx,ht,hf⟩:=h
  exact Wc.cond x hx (fun e=>XC.wc (ht e)) fun e=>XC.wc (hf e)
 | .block _ _ _,_,_,h=>Wc.block (XC.wc h)
 | .loop live a,s,K,h=>h
 | .lZ rf live x,s,K,h=>h
 | .exit id,s,K,h=>Wc.exit h
 | .ret,s,K,h=>Wc.ret h
 | .bad,s,K,h=>h.elim
 | .fz S a,s,K,h=>Wc.kX (oC s.env S) h.1 (XC.wc (c:=a) h.2)
 | .rR S a b,s,K,h=>Wc.ops (XO.tG (XO.mono h fun s' k=>Ev.kX (oC s'.env S) (by have:=k.1;rwa [CI]at this) (XO.wo k.2)))
def rA(ds:List D):D:=match ds with
 | [d]=>d
 | ds=>.tup ds
@[simp] theorem aps(d:D):rA [d]=d:=rfl
@[simp] theorem apt(d e:D):rA [d,e] = .tup [d,e]:=rfl
@[simp] theorem apu(d e f:D):rA [d,e,f] = .tup [d,e,f]:=rfl
@[simp] theorem apr:rA [] = .tup []:=rfl
def vA(rs:List sL)(own n:Nat)(K:D→U→Prop):iv:=fun o=>match o with
 | .norm s | .ret s=>oA (kill s.marks s.H) (fun H=>oA (rC { s with H:=H } rs) (fun ds=>K (leave own n H (rA ds)).1 (leave own n H (rA ds)).2) .mk) .mk
 | .exit _ _=>False
def Wf.xz(own:Nat){f:FuncId}{args:List D}{H:U}{fn:eV}{K:D→U→Prop}(c:IR)(hf:T.fn f=some fn)(hl:args.length≤fn.ntmps)(hc:kG c=fn.body)
  (h:XC T c { env:=qI args,H:=H } (vA fn.results own H.length K)):Wf T f args H K:=by
 have key:∀ s:St,(oA (kill s.marks s.H) (fun H'=>oA (rC { s with H:=H' } fn.results) (fun ds=>K (leave own H.length H' (rA ds)).1 (leave own H.length H' (rA ds)).2) .mk) .mk)→∃ d H',(match kill s.marks s.H with
  | some H1=>match results fn { s with H:=H1 }with
   | some d=>some (leave own H.length H1 d)
   | none=>none
  | none=>none)=some (d,H')∧K d H':=by
  rintro s ⟨H1,h1,ds,h2,hk⟩
  rw[h1]
  refine⟨_,_,?_,hk⟩
  unfold AL.results
  dsimp only
  rw[h2]
  cases ds with
  | nil=>rfl
  | cons a l=>cases l<;>rfl
 refine Wf.call own hf hl (hc▸(XC.wc h).mono fun o ho=>?_)
 cases o with
 | norm s=>exact key s ho
 | ret s=>exact key s ho
 | exit=>exact ho.elim
def Wf.xo(own:Nat){f:FuncId}{args:List D}{H:U}{fn:eV}{K:D→U→Prop}(hf:T.fn f=some fn)(hl:args.length≤fn.ntmps)
  (h:XC T fn.body { env:=qI args,H:=H } (vA fn.results own H.length K)) (hz:qK fn.body=true:=by rfl):Wf T f args H K:=Wf.xz own fn.body hf hl (nY hz) h
def Wf.x{f:FuncId}{args:List D}{H:U}{fn:eV}{K:D→U→Prop}(hf:T.fn f=some fn)(hl:args.length≤fn.ntmps)
  (h:XC T fn.body { env:=qI args,H:=H } (vA fn.results fn.own H.length K)) (hz:qK fn.body=true:=by rfl):Wf T f args H K:=Wf.xo fn.own hf hl h hz
def fG.is{f:FuncId}{args:List D}{dst:Option Nat}{s:St}{K:St→Prop}{fn:eV}{K0:D→U→Prop}(hf:T.fn f=some fn)(hp:fn.full=false)(h:Wf T f (args.map (e7 (fun _=>none) s.H 40)) [] K0)
  (k:∀ d Hn,K0 d Hn→oA (after s dst args d Hn) K .mk):fG T f args dst s K .mk:=.inl ⟨fn,hf,hp,Wf.mono h k⟩
def fG.rr{f:FuncId}{args:List D}{dst:Option Nat}{s:St}{K:St→Prop}{fn:eV}{K0:D→U→Prop}(hf:T.fn f=some fn)(hp:fn.full=true)(h:Wf T f args s.H K0)
  (k:∀ d H',K0 d H'→K { s with env:=put s.env dst d,H:=H' }):fG T f args dst s K .mk:=.inr ⟨fn,hf,hp,Wf.mono h k⟩
def fG.c{f:FuncId}{args:List D}{dst:Option Nat}{s:St}{K:St→Prop}{fn:eV}{x:D}(hf:T.fn f=some fn)(hp:fn.full=false)(h:Wf T f args [] fun d H'=>d=x∧H' = [])
  (hc:fE args=true) (hx:closed x=true) (k:K { s with env:=put s.env dst x }):fG T f args dst s K .mk:=by
 refine fG.is hf hp (K0:=fun d H'=>d=x∧H' = []) ?_ ?_
 ·have e0:args.map (e7 (fun _=>none) s.H 40)=args:=by
   conv=>rhs;rw[← aY args]
   exact au fun d hd=>ow (lO hc d hd)
  rw[e0];exact h
 ·rintro d Hn ⟨rfl,rfl⟩
  obtain⟨k1,k2⟩:=Bi (H:=s.H) hx
  refine⟨{ s with env:=put s.env dst d },?_,k⟩
  unfold after
  rw[if_pos hc,k1,k2]
  simp
def fG.r{f:FuncId}{args mZ:List D}{dst:Option Nat}{s:St}{K:St→Prop}{fn:eV}{x:D}(hf:T.fn f=some fn)(hp:fn.full=false)(h:Wf T f mZ [] fun d H'=>d=x∧H' = [])
  (hs:args.map (e7 (fun _=>none) s.H 40)=mZ) (hx:flat x=true) (kD:closed x=true) (k:K { s with env:=put s.env dst x }):fG T f args dst s K .mk:=by
 refine fG.is hf hp (K0:=fun d H'=>d=x∧H' = []) (by rw[hs];exact h) ?_
 rintro d Hn ⟨rfl,rfl⟩
 obtain⟨k1,k2⟩:=Bi (H:=s.H) kD
 refine⟨{ s with env:=put s.env dst d },?_,k⟩
 have:np d=true:=(J7 (H:=s.H) hx).1
 unfold after
 rw[this,k1,k2]
 simp
def iC.c{f:FuncId}{args:List D}{R:List Fp}{dst:Option Nat}{s:St}{Q:Rc→St→Prop}{fn:eV}{x:D}(hf:T.fn f=some fn)(hp:fn.full=false)(h:Wf T f args [] fun d H'=>d=x∧H' = [])
  (hc:fE args=true) (hx:closed x=true) (k:Q ⟨R,[]⟩ { s with env:=put s.env dst x }):iC T f args R dst s Q .mk:=by
 refine⟨fn,x,hf,hp,?_,by rw[if_pos hc];exact hx,k⟩
 have e0:args.map (e7 (fun _=>none) s.H 40)=args:=by
  conv=>rhs;rw[← aY args]
  exact au fun d hd=>ow (lO hc d hd)
 rw[e0];exact h
def iC.r{f:FuncId}{args mZ:List D}{R:List Fp}{dst:Option Nat}{s:St}{Q:Rc→St→Prop}{fn:eV}{x:D}(hf:T.fn f=some fn)(hp:fn.full=false)(h:Wf T f mZ [] fun d H'=>d=x∧H' = [])
  (hs:args.map (e7 (fun _=>none) s.H 40)=mZ) (hx:flat x=true) (kD:closed x=true) (k:Q ⟨R,[]⟩ { s with env:=put s.env dst x }):iC T f args R dst s Q .mk:=
 ⟨fn,x,hf,hp,by rw[hs];exact h,by split<;>assumption,k⟩
variable{s:St}{K:iv}{a b:IR}{l:List ff}{op:ij}{k j:Nat}
@[simp ↓] theorem ahr:XC T .skip s K=K (.norm s):=(rfl)
@[simp ↓] theorem ahn:XC T (.ops l) s K=XO T l s fun s'=>K (.norm s'):=(rfl)
@[simp ↓] theorem ahh{iW:List (Nat×Nat)}:XC T (.kK iW l) s K=XT T l s fun rs s'=>sv iW rs=true∧K (.norm s'):=(rfl)
@[simp ↓] theorem ahi{iW:List (Nat×Nat)}{es:List ff}:XC T (.lP iW l es) s K=XT T l s fun rs s'=>sv iW rs=true∧XO T es s' fun s'=>K (.norm s'):=(rfl)
@[simp ↓] theorem ahq:XC T (.seq a b) s K=XC T a s (Iu T b K):=(rfl)
@[simp ↓] theorem ahg{c:X}:XC T (.cond c a b) s K=XB (ev s.env.get c) (XC T a s K) (XC T b s K) .mk:=(rfl)
@[simp ↓] theorem ahf{id:Nat}{live:List Nat}:XC T (.block id live a) s K=XC T a s (wW id s.H.length live K):=(rfl)
@[simp ↓] theorem ahm{live:List Nat}:XC T (.loop live a) s K=fh T live a s K .mk:=(rfl)
@[simp ↓] theorem aho{rf:Nat}{live:List Nat}{x:X}:XC T (.lZ rf live x) s K=wV T rf live x s K .mk:=(rfl)
@[simp ↓] theorem ahk{S:List Nat}:XC T (.fz S a) s K=(tq s.marks (oC s.env S)=true∧XC T a (kX (oC s.env S) s) K):=(rfl)
@[simp ↓] theorem ahl{S:List Nat}{x y:List ff}:XC T (.rR S x y) s K=XO T x s fun s'=>tq s'.marks (oC s'.env S)=true∧XO T y (kX (oC s'.env S) s') fun s'=>K (.norm s'):=(rfl)
@[simp ↓] theorem ahj{id:Nat}:XC T (.exit id) s K=K (.exit id s):=(rfl)
@[simp ↓] theorem ahp:XC T .ret s K=K (.ret s):=(rfl)
@[simp ↓] theorem anQ:Iu T b K (.norm s)=XC T b s K:=(rfl)
@[simp ↓] theorem anP{id:Nat}:Iu T b K (.exit id s)=K (.exit id s):=(rfl)
@[simp ↓] theorem anR:Iu T b K (.ret s)=K (.ret s):=(rfl)
@[simp ↓] theorem Uq{id n:Nat}{live:List Nat}:wW id n live K (.norm s)=K (.norm (cut n live s)):=(rfl)
@[simp ↓] theorem ajS{id n:Nat}{live:List Nat}:wW id n live K (.ret s)=K (.ret s):=(rfl)
@[simp ↓] theorem Ur{id n:Nat}{live:List Nat}:wW id n live K (.exit id s)=K (.norm (cut n live s)):=by simp[wW,l7]
@[simp ↓] theorem ajR{id vZ n:Nat}{live:List Nat}(h:vZ≠id):wW id n live K (.exit vZ s)=K (.exit vZ s):=by simp[wW,l7,h]
@[simp ↓] theorem alA{rs:List sL}{own n:Nat}{K:D→U→Prop}:vA rs own n K (.ret s)=oA (kill s.marks s.H) (fun H=>oA (rC { s with H:=H } rs) (fun ds=>K (leave own n H (rA ds)).1 (leave own n H (rA ds)).2) .mk) .mk:=(rfl)
@[simp ↓] theorem alz{rs:List sL}{own n:Nat}{K:D→U→Prop}:vA rs own n K (.norm s)=oA (kill s.marks s.H) (fun H=>oA (rC { s with H:=H } rs) (fun ds=>K (leave own n H (rA ds)).1 (leave own n H (rA ds)).2) .mk) .mk:=(rfl)
@[simp ↓] theorem ahy{K:St→Prop}:XO T [] s K=K s:=(rfl)
@[simp ↓] theorem ahz{K:St→Prop}:XO T (o k op::l) s K=ik T op (some k) s fun s'=>XO T l s' K:=by
 simp[XO,guardOf]
@[simp ↓] theorem ahB{K:St→Prop}:XO T (u op::l) s K=ik T op none s fun s'=>XO T l s' K:=by
 simp[XO,guardOf]
@[simp ↓] theorem ahA{g:Bool}{K:St→Prop}:XO T (og j g k op::l) s K=XG (guardOf s.env.get (some (j,g))) (ik T op (some k) s fun s'=>XO T l s' K) (XO T l { s with env:=(k,.val undef)::s.env } K) .mk:=(rfl)
@[simp ↓] theorem ahC{g:Bool}{K:St→Prop}:XO T (ug j g op::l) s K=XG (guardOf s.env.get (some (j,g))) (ik T op none s fun s'=>XO T l s' K) (XO T l s K) .mk:=(rfl)
@[simp ↓] theorem ais{Q:List Rc→St→Prop}:XT T [] s Q=Q [] s:=(rfl)
@[simp ↓] theorem ait{Q:List Rc→St→Prop}:XT T (o k op::l) s Q=jk T op (some k) s fun rc s'=>XT T l s' fun rs s2=>Q (rc::rs) s2:=by
 simp[XT,guardOf]
@[simp ↓] theorem aiv{Q:List Rc→St→Prop}:XT T (u op::l) s Q=jk T op none s fun rc s'=>XT T l s' fun rs s2=>Q (rc::rs) s2:=by
 simp[XT,guardOf]
@[simp ↓] theorem aiu{g:Bool}{Q:List Rc→St→Prop}:XT T (og j g k op::l) s Q=XG (guardOf s.env.get (some (j,g))) (jk T op (some k) s fun rc s'=>XT T l s' fun rs s2=>Q (rc::rs) s2) (XT T l { s with env:=(k,.val undef)::s.env } fun rs s2=>Q (⟨[],[]⟩::rs) s2) .mk:=(rfl)
@[simp ↓] theorem aiw{g:Bool}{Q:List Rc→St→Prop}:XT T (ug j g op::l) s Q=XG (guardOf s.env.get (some (j,g))) (jk T op none s fun rc s'=>XT T l s' fun rs s2=>Q (rc::rs) s2) (XT T l s fun rs s2=>Q (⟨[],[]⟩::rs) s2) .mk:=(rfl)
@[simp ↓] theorem amO{dst:Option Nat}{K:St→Prop}{d:D}{δ:Dl}:kp s dst K (d,δ)=K { s with env:=put s.env dst d,H:=δ.app s.H (Al.last s.H) }:=(rfl)
@[simp ↓] theorem amP{dst:Option Nat}{R:List Fp}{Q:Rc→St→Prop}{d:D}{δ:Dl}:kt s dst R Q (d,δ)=Q ⟨R,jm s.H.length δ⟩ { s with env:=put s.env dst d,H:=δ.app s.H (Al.last s.H) }:=(rfl)
section
variable{dst:Option Nat}{K:St→Prop}{Q:Rc→St→Prop}
@[simp ↓] theorem aic{x:X}:ik T (.mv x) dst s K=oA (fO s.env.get s.H s.H.length (.mv x)) (kp s dst K) .mk:=(rfl)
@[simp ↓] theorem ai0{x:X}:jk T (.mv x) dst s Q=oA (fO s.env.get s.H s.H.length (.mv x)) (kt s dst (fX s.env.get s.H (.mv x)) Q) .mk:=(rfl)
@[simp ↓] theorem aii{c a b:X}:ik T (.pick c a b) dst s K=oA (fO s.env.get s.H s.H.length (.pick c a b)) (kp s dst K) .mk:=(rfl)
@[simp ↓] theorem ai2{c a b:X}:jk T (.pick c a b) dst s Q=oA (fO s.env.get s.H s.H.length (.pick c a b)) (kt s dst (fX s.env.get s.H (.pick c a b)) Q) .mk:=(rfl)
@[simp ↓] theorem ahI{t:TypeId}{x:X}:ik T (.box t x) dst s K=oA (fO s.env.get s.H s.H.length (.box t x)) (kp s dst K) .mk:=(rfl)
@[simp ↓] theorem aiB{t:TypeId}{x:X}:jk T (.box t x) dst s Q=oA (fO s.env.get s.H s.H.length (.box t x)) (kt s dst (fX s.env.get s.H (.box t x)) Q) .mk:=(rfl)
@[simp ↓] theorem ahD{t:TypeId}{z:List D}:ik T (.alloc t z) dst s K=oA (fO s.env.get s.H s.H.length (.alloc t z)) (kp s dst K) .mk:=(rfl)
@[simp ↓] theorem aix{t:TypeId}{z:List D}:jk T (.alloc t z) dst s Q=oA (fO s.env.get s.H s.H.length (.alloc t z)) (kt s dst (fX s.env.get s.H (.alloc t z)) Q) .mk:=(rfl)
@[simp ↓] theorem ahJ{z:List D}{ps:List (Nat×Nat×X)}:ik T (.build z ps) dst s K=oA (fO s.env.get s.H s.H.length (.build z ps)) (kp s dst K) .mk:=(rfl)
@[simp ↓] theorem aiC{z:List D}{ps:List (Nat×Nat×X)}:jk T (.build z ps) dst s Q=oA (fO s.env.get s.H s.H.length (.build z ps)) (kt s dst (fX s.env.get s.H (.build z ps)) Q) .mk:=(rfl)
@[simp ↓] theorem ahK{t sz:Nat}{z:List D}{n:Nat}{ps:List (Nat×X)}:ik T (.buildSl t sz z n ps) dst s K=oA (fO s.env.get s.H s.H.length (.buildSl t sz z n ps)) (kp s dst K) .mk:=(rfl)
@[simp ↓] theorem aiD{t sz:Nat}{z:List D}{n:Nat}{ps:List (Nat×X)}:jk T (.buildSl t sz z n ps) dst s Q=oA (fO s.env.get s.H s.H.length (.buildSl t sz z n ps)) (kt s dst (fX s.env.get s.H (.buildSl t sz z n ps)) Q) .mk:=(rfl)
@[simp ↓] theorem ah2{x:X}:ik T (.ld1 x) dst s K=oA (fO s.env.get s.H s.H.length (.ld1 x)) (kp s dst K) .mk:=(rfl)
@[simp ↓] theorem aiR{x:X}:jk T (.ld1 x) dst s Q=oA (fO s.env.get s.H s.H.length (.ld1 x)) (kt s dst (fX s.env.get s.H (.ld1 x)) Q) .mk:=(rfl)
@[simp ↓] theorem ah3{n:Nat}{x:X}:ik T (.ldN n x) dst s K=oA (fO s.env.get s.H s.H.length (.ldN n x)) (kp s dst K) .mk:=(rfl)
@[simp ↓] theorem aiS{n:Nat}{x:X}:jk T (.ldN n x) dst s Q=oA (fO s.env.get s.H s.H.length (.ldN n x)) (kt s dst (fX s.env.get s.H (.ldN n x)) Q) .mk:=(rfl)
@[simp ↓] theorem aip{a x:X}:ik T (.st1 a x) dst s K=oA (fO s.env.get s.H s.H.length (.st1 a x)) (kp s dst K) .mk:=(rfl)
@[simp ↓] theorem ai7{a x:X}:jk T (.st1 a x) dst s Q=oA (fO s.env.get s.H s.H.length (.st1 a x)) (kt s dst (fX s.env.get s.H (.st1 a x)) Q) .mk:=(rfl)
@[simp ↓] theorem aiq{n:Nat}{a x:X}:ik T (.stN n a x) dst s K=oA (fO s.env.get s.H s.H.length (.stN n a x)) (kp s dst K) .mk:=(rfl)
@[simp ↓] theorem ai8{n:Nat}{a x:X}:jk T (.stN n a x) dst s Q=oA (fO s.env.get s.H s.H.length (.stN n a x)) (kt s dst (fX s.env.get s.H (.stN n a x)) Q) .mk:=(rfl)
@[simp ↓] theorem aih{x:X}:ik T (.nilck x) dst s K=oA (fO s.env.get s.H s.H.length (.nilck x)) (kp s dst K) .mk:=(rfl)
@[simp ↓] theorem ai1{x:X}:jk T (.nilck x) dst s Q=oA (fO s.env.get s.H s.H.length (.nilck x)) (kt s dst (fX s.env.get s.H (.nilck x)) Q) .mk:=(rfl)
@[simp ↓] theorem ahG{op:BinOp}{x y:X}:ik T (.arith op x y) dst s K=oA (fO s.env.get s.H s.H.length (.arith op x y)) (kp s dst K) .mk:=(rfl)
@[simp ↓] theorem aiz{op:BinOp}{x y:X}:jk T (.arith op x y) dst s Q=oA (fO s.env.get s.H s.H.length (.arith op x y)) (kt s dst (fX s.env.get s.H (.arith op x y)) Q) .mk:=(rfl)
@[simp ↓] theorem ahU{ja:Bool}{ls:List nC}{neg:Bool}{x y:X}:ik T (.eqS ja ls neg x y) dst s K=oA (fO s.env.get s.H s.H.length (.eqS ja ls neg x y)) (kp s dst K) .mk:=(rfl)
@[simp ↓] theorem aiJ{ja:Bool}{ls:List nC}{neg:Bool}{x y:X}:jk T (.eqS ja ls neg x y) dst s Q=oA (fO s.env.get s.H s.H.length (.eqS ja ls neg x y)) (kt s dst (fX s.env.get s.H (.eqS ja ls neg x y)) Q) .mk:=(rfl)
@[simp ↓] theorem air{op:UnOp}{x:X}:ik T (.un op x) dst s K=oA (fO s.env.get s.H s.H.length (.un op x)) (kp s dst K) .mk:=(rfl)
@[simp ↓] theorem ai9{op:UnOp}{x:X}:jk T (.un op x) dst s Q=oA (fO s.env.get s.H s.H.length (.un op x)) (kt s dst (fX s.env.get s.H (.un op x)) Q) .mk:=(rfl)
@[simp ↓] theorem ahQ{k:IntKind}{x:X}:ik T (.conv k x) dst s K=oA (fO s.env.get s.H s.H.length (.conv k x)) (kp s dst K) .mk:=(rfl)
@[simp ↓] theorem aiH{k:IntKind}{x:X}:jk T (.conv k x) dst s Q=oA (fO s.env.get s.H s.H.length (.conv k x)) (kt s dst (fX s.env.get s.H (.conv k x)) Q) .mk:=(rfl)
@[simp ↓] theorem ahH{x:X}:ik T (.b2s x) dst s K=oA (fO s.env.get s.H s.H.length (.b2s x)) (kp s dst K) .mk:=(rfl)
@[simp ↓] theorem aiA{x:X}:jk T (.b2s x) dst s Q=oA (fO s.env.get s.H s.H.length (.b2s x)) (kt s dst (fX s.env.get s.H (.b2s x)) Q) .mk:=(rfl)
@[simp ↓] theorem ah9{fn:Fn}{first captured:List X}:ik T (.mkfn fn first captured) dst s K=oA (fO s.env.get s.H s.H.length (.mkfn fn first captured)) (kp s dst K) .mk:=(rfl)
@[simp ↓] theorem aiX{fn:Fn}{first captured:List X}:jk T (.mkfn fn first captured) dst s Q=oA (fO s.env.get s.H s.H.length (.mkfn fn first captured)) (kt s dst (fX s.env.get s.H (.mkfn fn first captured)) Q) .mk:=(rfl)
@[simp ↓] theorem aia{kk:KK}:ik T (.mkmap kk) dst s K=oA (fO s.env.get s.H s.H.length (.mkmap kk)) (kp s dst K) .mk:=(rfl)
@[simp ↓] theorem aiY{kk:KK}:jk T (.mkmap kk) dst s Q=oA (fO s.env.get s.H s.H.length (.mkmap kk)) (kt s dst (fX s.env.get s.H (.mkmap kk)) Q) .mk:=(rfl)
@[simp ↓] theorem aib{t sz bytes:Nat}{z:List D}{l c:X}:ik T (.mksl t sz bytes z l c) dst s K=oA (fO s.env.get s.H s.H.length (.mksl t sz bytes z l c)) (kp s dst K) .mk:=(rfl)
@[simp ↓] theorem aiZ{t sz bytes:Nat}{z:List D}{l c:X}:jk T (.mksl t sz bytes z l c) dst s Q=oA (fO s.env.get s.H s.H.length (.mksl t sz bytes z l c)) (kt s dst (fX s.env.get s.H (.mksl t sz bytes z l c)) Q) .mk:=(rfl)
@[simp ↓] theorem ail{sz:Nat}{x:X}{lo hi:Option X}:ik T (.slc sz x lo hi) dst s K=oA (fO s.env.get s.H s.H.length (.slc sz x lo hi)) (kp s dst K) .mk:=(rfl)
@[simp ↓] theorem ai3{sz:Nat}{x:X}{lo hi:Option X}:jk T (.slc sz x lo hi) dst s Q=oA (fO s.env.get s.H s.H.length (.slc sz x lo hi)) (kt s dst (fX s.env.get s.H (.slc sz x lo hi)) Q) .mk:=(rfl)
@[simp ↓] theorem aim{sz:Nat}{x:X}{lo:Option X}{hi mx:X}:ik T (.slc3 sz x lo hi mx) dst s K=oA (fO s.env.get s.H s.H.length (.slc3 sz x lo hi mx)) (kp s dst K) .mk:=(rfl)
@[simp ↓] theorem ai4{sz:Nat}{x:X}{lo:Option X}{hi mx:X}:jk T (.slc3 sz x lo hi mx) dst s Q=oA (fO s.env.get s.H s.H.length (.slc3 sz x lo hi mx)) (kt s dst (fX s.env.get s.H (.slc3 sz x lo hi mx)) Q) .mk:=(rfl)
@[simp ↓] theorem ain{sz n:Nat}{x:X}{lo hi:Option X}:ik T (.slcArr sz n x lo hi) dst s K=oA (fO s.env.get s.H s.H.length (.slcArr sz n x lo hi)) (kp s dst K) .mk:=(rfl)
@[simp ↓] theorem ai5{sz n:Nat}{x:X}{lo hi:Option X}:jk T (.slcArr sz n x lo hi) dst s Q=oA (fO s.env.get s.H s.H.length (.slcArr sz n x lo hi)) (kt s dst (fX s.env.get s.H (.slcArr sz n x lo hi)) Q) .mk:=(rfl)
@[simp ↓] theorem aio{x:X}{lo hi:Option X}:ik T (.slcS x lo hi) dst s K=oA (fO s.env.get s.H s.H.length (.slcS x lo hi)) (kp s dst K) .mk:=(rfl)
@[simp ↓] theorem ai6{x:X}{lo hi:Option X}:jk T (.slcS x lo hi) dst s Q=oA (fO s.env.get s.H s.H.length (.slcS x lo hi)) (kt s dst (fX s.env.get s.H (.slcS x lo hi)) Q) .mk:=(rfl)
@[simp ↓] theorem ahX{off:Nat}{x:X}:ik T (.fieldA off x) dst s K=oA (fO s.env.get s.H s.H.length (.fieldA off x)) (kp s dst K) .mk:=(rfl)
@[simp ↓] theorem aiM{off:Nat}{x:X}:jk T (.fieldA off x) dst s Q=oA (fO s.env.get s.H s.H.length (.fieldA off x)) (kt s dst (fX s.env.get s.H (.fieldA off x)) Q) .mk:=(rfl)
@[simp ↓] theorem ahW{off n:Nat}{ja:Bool}{x:X}:ik T (.field off n ja x) dst s K=oA (fO s.env.get s.H s.H.length (.field off n ja x)) (kp s dst K) .mk:=(rfl)
@[simp ↓] theorem aiL{off n:Nat}{ja:Bool}{x:X}:jk T (.field off n ja x) dst s Q=oA (fO s.env.get s.H s.H.length (.field off n ja x)) (kt s dst (fX s.env.get s.H (.field off n ja x)) Q) .mk:=(rfl)
@[simp ↓] theorem ahZ{sz:Nat}{x i:X}:ik T (.idxA sz x i) dst s K=oA (fO s.env.get s.H s.H.length (.idxA sz x i)) (kp s dst K) .mk:=(rfl)
@[simp ↓] theorem aiO{sz:Nat}{x i:X}:jk T (.idxA sz x i) dst s Q=oA (fO s.env.get s.H s.H.length (.idxA sz x i)) (kt s dst (fX s.env.get s.H (.idxA sz x i)) Q) .mk:=(rfl)
@[simp ↓] theorem ah0{sz n:Nat}{x i:X}:ik T (.idxArr sz n x i) dst s K=oA (fO s.env.get s.H s.H.length (.idxArr sz n x i)) (kp s dst K) .mk:=(rfl)
@[simp ↓] theorem aiP{sz n:Nat}{x i:X}:jk T (.idxArr sz n x i) dst s Q=oA (fO s.env.get s.H s.H.length (.idxArr sz n x i)) (kt s dst (fX s.env.get s.H (.idxArr sz n x i)) Q) .mk:=(rfl)
@[simp ↓] theorem ahY{sz n:Nat}{ja:Bool}{x i:X}:ik T (.idx sz n ja x i) dst s K=oA (fO s.env.get s.H s.H.length (.idx sz n ja x i)) (kp s dst K) .mk:=(rfl)
@[simp ↓] theorem aiN{sz n:Nat}{ja:Bool}{x i:X}:jk T (.idx sz n ja x i) dst s Q=oA (fO s.env.get s.H s.H.length (.idx sz n ja x i)) (kt s dst (fX s.env.get s.H (.idx sz n ja x i)) Q) .mk:=(rfl)
@[simp ↓] theorem ah1{x i:X}:ik T (.idxStr x i) dst s K=oA (fO s.env.get s.H s.H.length (.idxStr x i)) (kp s dst K) .mk:=(rfl)
@[simp ↓] theorem aiQ{x i:X}:jk T (.idxStr x i) dst s Q=oA (fO s.env.get s.H s.H.length (.idxStr x i)) (kt s dst (fX s.env.get s.H (.idxStr x i)) Q) .mk:=(rfl)
@[simp ↓] theorem ah5{kk:KK}{z:D}{ok:Bool}{m k:X}:ik T (.lookup kk z ok m k) dst s K=oA (fO s.env.get s.H s.H.length (.lookup kk z ok m k)) (kp s dst K) .mk:=(rfl)
@[simp ↓] theorem aiU{kk:KK}{z:D}{ok:Bool}{m k:X}:jk T (.lookup kk z ok m k) dst s Q=oA (fO s.env.get s.H s.H.length (.lookup kk z ok m k)) (kt s dst (fX s.env.get s.H (.lookup kk z ok m k)) Q) .mk:=(rfl)
@[simp ↓] theorem ah7{kk:KK}{m k v:X}:ik T (.mapUpd kk m k v) dst s K=oA (fO s.env.get s.H s.H.length (.mapUpd kk m k v)) (kp s dst K) .mk:=(rfl)
@[simp ↓] theorem aiV{kk:KK}{m k v:X}:jk T (.mapUpd kk m k v) dst s Q=oA (fO s.env.get s.H s.H.length (.mapUpd kk m k v)) (kt s dst (fX s.env.get s.H (.mapUpd kk m k v)) Q) .mk:=(rfl)
@[simp ↓] theorem ahV{x:X}{i:Nat}:ik T (.ext x i) dst s K=oA (fO s.env.get s.H s.H.length (.ext x i)) (kp s dst K) .mk:=(rfl)
@[simp ↓] theorem aiK{x:X}{i:Nat}:jk T (.ext x i) dst s Q=oA (fO s.env.get s.H s.H.length (.ext x i)) (kt s dst (fX s.env.get s.H (.ext x i)) Q) .mk:=(rfl)
@[simp ↓] theorem ahL{f:FuncId}{args:List X}:ik T (.call f args) dst s K=fG T f (args.map (ev s.env.get)) dst s K .mk:=(rfl)
@[simp ↓] theorem aiE{f:FuncId}{args:List X}:jk T (.call f args) dst s Q=iC T f (args.map (ev s.env.get)) (fX s.env.get s.H (.call f args)) dst s Q .mk:=(rfl)
@[simp ↓] theorem ahM{f:FuncId}{args:List X}:ik T (.callN f args) dst s K=fG T f (args.map (ev s.env.get)) dst s K .mk:=(rfl)
@[simp ↓] theorem aiF{f:FuncId}{args:List X}:jk T (.callN f args) dst s Q=qX T f (args.map (ev s.env.get)) (fX s.env.get s.H (.callN f args)) dst s Q .mk:=(rfl)
@[simp ↓] theorem ahN{f:X}{args:List X}:ik T (.callv f args) dst s K=sN T (ev s.env.get f) (args.map (ev s.env.get)) dst s K .mk:=(rfl)
@[simp] theorem ahs{k:FuncId}{first cap args:List D}:sN T (.fn (.func k) first cap) args dst s K .mk=fG T k (first++args++cap) dst s K .mk:=by
 show oA (some (k,first++args++cap)) (fun p=>fG T p.1 p.2 dst s K .mk) .mk=_
 simp only[wj]
@[simp] theorem aht{v:Nat}{args:List D}:sN T (.iA v) args dst s K .mk=pU T v args dst s K .mk:=(rfl)
@[simp ↓] theorem aiG{f:X}{args:List X}:jk T (.callv f args) dst s Q=oA (jN s.env.get (.callv f args)) (fun p=>iC T p.1 p.2 (fX s.env.get s.H (.callv f args)) dst s Q .mk) .mk:=(rfl)
@[simp ↓] theorem ahE{t sz bytes:Nat}{x y:X}:ik T (.app t sz bytes x y) dst s K=oA (fO s.env.get s.H s.H.length (.app t sz bytes x y)) (kp s dst K) .mk:=(rfl)
@[simp ↓] theorem aiy{t sz bytes:Nat}{x y:X}:jk T (.app t sz bytes x y) dst s Q=oA (fO s.env.get s.H s.H.length (.app t sz bytes x y)) (kt s dst (fX s.env.get s.H (.app t sz bytes x y)) Q) .mk:=(rfl)
@[simp ↓] theorem ahR{sz:Nat}{x y:X}:ik T (.copy sz x y) dst s K=oA (fO s.env.get s.H s.H.length (.copy sz x y)) (kp s dst K) .mk:=(rfl)
@[simp ↓] theorem aiI{sz:Nat}{x y:X}:jk T (.copy sz x y) dst s Q=oA (fO s.env.get s.H s.H.length (.copy sz x y)) (kt s dst (fX s.env.get s.H (.copy sz x y)) Q) .mk:=(rfl)
@[simp ↓] theorem ah4{k:wQ}{x:X}:ik T (.len k x) dst s K=oA (fO s.env.get s.H s.H.length (.len k x)) (kp s dst K) .mk:=(rfl)
@[simp ↓] theorem aiT{k:wQ}{x:X}:jk T (.len k x) dst s Q=oA (fO s.env.get s.H s.H.length (.len k x)) (kt s dst (fX s.env.get s.H (.len k x)) Q) .mk:=(rfl)
@[simp ↓] theorem ah8{isMax:Bool}{xs:List X}:ik T (.minmax isMax xs) dst s K=oA (fO s.env.get s.H s.H.length (.minmax isMax xs)) (kp s dst K) .mk:=(rfl)
@[simp ↓] theorem aiW{isMax:Bool}{xs:List X}:jk T (.minmax isMax xs) dst s Q=oA (fO s.env.get s.H s.H.length (.minmax isMax xs)) (kt s dst (fX s.env.get s.H (.minmax isMax xs)) Q) .mk:=(rfl)
@[simp ↓] theorem aif{neg:Bool}{x:X}:ik T (.nilS neg x) dst s K=oA (lu s.env.get s.H s.H.length (.nilS neg x)) (kp s dst K) .mk:=(rfl)
@[simp ↓] theorem ahO{x:X}:ik T (.capE x) dst s K=oA (lu s.env.get s.H s.H.length (.capE x)) (kp s dst K) .mk:=(rfl)
@[simp ↓] theorem ahF{t sz bytes:Nat}{z:List D}{x n:X}:ik T (.appZ t sz bytes z x n) dst s K=oA (lu s.env.get s.H s.H.length (.appZ t sz bytes z x n)) (kp s dst K) .mk:=(rfl)
@[simp ↓] theorem ahP{sz:Nat}{z:List D}{x:X}:ik T (.clr sz z x) dst s K=oA (lu s.env.get s.H s.H.length (.clr sz z x)) (kp s dst K) .mk:=(rfl)
@[simp ↓] theorem aik{x:X}:ik T (.rangeS x) dst s K=oA (lu s.env.get s.H s.H.length (.rangeS x)) (kp s dst K) .mk:=(rfl)
@[simp ↓] theorem aie{x:X}:ik T (.nextS x) dst s K=oA (lu s.env.get s.H s.H.length (.nextS x)) (kp s dst K) .mk:=(rfl)
@[simp ↓] theorem aij{x:X}:ik T (.rangeM x) dst s K=oA (lu s.env.get s.H s.H.length (.rangeM x)) (kp s dst K) .mk:=(rfl)
@[simp ↓] theorem aid{x:X}:ik T (.nextM x) dst s K=y4 (ev s.env.get x) dst s K .mk:=(rfl)
@[simp ↓] theorem ah6{kk:KK}{z:D}{m k:X}:ik T (.mapEnt kk z m k) dst s K=oA (lu s.env.get s.H s.H.length (.mapEnt kk z m k)) (kp s dst K) .mk:=(rfl)
@[simp ↓] theorem ahS{m k x:X}:ik T (.entSt m k x) dst s K=oA (lu s.env.get s.H s.H.length (.entSt m k x)) (kp s dst K) .mk:=(rfl)
@[simp ↓] theorem ahT{x:X}:ik T (.entry x) dst s K=oA (lu s.env.get s.H s.H.length (.entry x)) (kp s dst K) .mk:=(rfl)
end
end
def wg(n:Nat)(live keys:List Nat)(J:Env→U→List Nat→Bool→Prop)(K:iv):iv:=fun o=>match o with
 | .norm s=>J (forget keys (cut n live s).env) (cut n live s).H (cut n live s).marks (cut n live s).gZ
 | o=>K o
@[simp ↓] theorem Z5{n:Nat}{live keys:List Nat}{J:Env→U→List Nat→Bool→Prop}{K:iv}{s:St}:wg n live keys J K (.norm s)=J (forget keys (cut n live s).env) (cut n live s).H (cut n live s).marks (cut n live s).gZ:=(rfl)
@[simp ↓] theorem ans{n:Nat}{live keys:List Nat}{J:Env→U→List Nat→Bool→Prop}{K:iv}{id:Nat}{s:St}:wg n live keys J K (.exit id s)=K (.exit id s):=(rfl)
@[simp ↓] theorem ant{n:Nat}{live keys:List Nat}{J:Env→U→List Nat→Bool→Prop}{K:iv}{s:St}:wg n live keys J K (.ret s)=K (.ret s):=(rfl)
theorem fh.i{T:gP}{live:List Nat}{a:IR}{s:St}{K:iv}{α:Type}(keys:List Nat)(qA:(keys.all fun k=>live.contains k)=true)(E:α→Env)(Hp:α→U)(P:α→Prop)(μ:α→Nat)(x0:α)
  (h0:P x0) (hE:forget keys s.env=E x0) (hH:s.H=Hp x0)
  (h:∀ x,P x→XC T a { env:=E x,H:=Hp x,marks:=s.marks,gZ:=s.gZ } (wg s.H.length live keys (fun e H m r=>∃ x',e=E x'∧H=Hp x'∧m=s.marks∧r=s.gZ∧μ x'<μ x∧P x') K)):fh T live a s K .mk:=by
 refine Wc.loop (fun m s'=>∃ x,P x∧m=μ x∧({ s' with env:=forget keys s'.env }:St) = { env:=E x,H:=Hp x,marks:=s.marks,gZ:=s.gZ }) (μ x0) ⟨x0,h0,rfl,?_⟩ ?_
 ·dsimp only
  rw[WJ qA,hE]
  rw[← hH]
 ·rintro m s' ⟨x,hP,rfl,he⟩
  refine Ev.He keys ?_
  rw[he]
  refine(XC.wc (h x hP)).mono fun o ho=>?_
  cases o with
  | norm Dd=>
   obtain⟨x',h3,h4,h5,h6,h2,h1⟩:=ho
   refine⟨μ x',h2,x',h1,rfl,?_⟩
   rw[h3]
   generalize cut s.H.length live Dd=q at *
   cases q
   simp_all
  | exit=>exact ho
  | ret=>exact ho
def fh.j{T:gP}{live:List Nat}{a:IR}{s:St}{K:iv}{α:Type}(x0:α)(E:α→Env)(Hp:α→U)(P:α→Prop)(μ:α→Nat)
  (h0:P x0) (hE:forget ((E x0).map (·.1)) s.env=E x0) (hH:s.H=Hp x0) (qA:(((E x0).map (·.1)).all fun k=>live.contains k)=true)
  (h:∀ x,P x→XC T a { env:=E x,H:=Hp x,marks:=s.marks,gZ:=s.gZ } (wg s.H.length live ((E x0).map (·.1)) (fun e H m r=>∃ x',e=E x'∧H=Hp x'∧m=s.marks∧r=s.gZ∧μ x'<μ x∧P x') K)):fh T live a s K .mk:=
 fh.i ((E x0).map (·.1)) qA E Hp P μ x0 h0 hE hH h
@[simp] theorem p6{n:Nat}{live:List Nat}{env:Env}{H:U}{m:List Nat}{r:Bool}(h:H.length≤n):cut n live { env:=env,H:=H,marks:=m,gZ:=r } = { env:=forget live env,H:=H,marks:=m,gZ:=r }:=O' h
def Is(x:D):D→U→Prop:=fun d Hn=>d=x∧Hn = []
@[simp] theorem ag2(x d:D)(H:U):Is x d H=(d=x∧H = []):=rfl
@[simp] theorem ao4(x:Bool)(a b:D):yl (.b x) a b=some (cond x a b):=by cases x<;>rfl
@[simp] theorem aog(c:Bool)(a b d e:D)(P:D→Prop):oA (yl (bif c then a else b) d e) P .mk=X2 c (oA (yl a d e) P .mk) (oA (yl b d e) P .mk) .mk:=by cases c<;>simp
@[simp] theorem ZL{n:Nat}{H:U}{d:D}(h:H.length≤n)(own:Nat):leave own n H d=(d,H):=by
 unfold leave;rw[if_pos (.inl h)]
section
variable{P:D→Prop}{a b:Int}
@[simp] theorem anZ:oA (jl .add .i64 a b) P .mk=(mI (a+b)∧P (.i (a+b))):=by simp only[jl,if_true];rw[yh,wj]
@[simp] theorem aol:oA (jl .sub .i64 a b) P .mk=(mI (a-b)∧P (.i (a-b))):=by simp only[jl,if_true];rw[yh,wj]
@[simp] theorem aof:oA (jl .mul .i64 a b) P .mk=(mI (a*b)∧P (.i (a*b))):=by simp only[jl,if_true];rw[yh,wj]
end
def uN(a b:Int):Int:=IntKind.i64.wrap (a.tdiv b)
def fq(a b:Int):Int:=a.tmod b
def oO{n:Int}(h:mI n):IntKind.i64.wrap n=n:=by
 unfold mI at h
 simp only[IntKind.wrap,IntKind.bits,IntKind.signed]
 simp
 omega
def uO{a b:Int}(h0:0≤a)(h1:a≤9223372036854775807)(hb:0<b):uN a b=a / b:=by
 unfold uN
 rw[Int.tdiv_eq_ediv_of_nonneg h0,oO]
 have h2:0≤a / b:=Int.ediv_nonneg h0 (by omega)
 have h3:a / b≤a:=Int.ediv_le_self b h0
 exact jG
def jT{a b:Int}(h0:0≤a):fq a b=a % b:=Int.tmod_eq_emod_of_nonneg h0
section
variable{P:D→Prop}{a b:Int}{t:Tag P}
@[simp] theorem aoh:oA (jl .quo .i64 a b) P t=(b≠0∧P (.i (uN a b))):=by
 cases t
 simp only[jl]
 by_cases h:b=0<;>simp[h,uN]
@[simp] theorem aoj:oA (jl .rem .i64 a b) P t=(b≠0∧P (.i (fq a b))):=by
 cases t
 simp only[jl]
 by_cases h:b=0<;>simp[h,fq]
end
@[simp] theorem amf(n:Int):mI n=(-9223372036854775808≤n∧n≤9223372036854775807):=rfl
def gt{α:Type}[Inhabited α](l:List α)(n:Int):α:=l.getD n.toNat default
def ft{α:Type}[Inhabited α]{l:List α}{n:Int}(h0:0≤n)(h:n<l.length):gt l n∈l:=by
 unfold gt
 rw[List.getD_eq_getElem?_getD,List.getElem?_eq_getElem (by omega),aL]
 exact bF _
def kl{α:Type}[Inhabited α]{l:List α}{n:Int}(h0:0≤n)(h:n<l.length):gt l n=l[n.toNat]:=by
 unfold gt
 rw[List.getD_eq_getElem?_getD,List.getElem?_eq_getElem (by omega),aL]
def Hk{α:Type}[Inhabited α]{l:List α}{n:Nat}(h:n<l.length):gt l n=l[n]:=kl (by omega) (by omega)
def iD{α:Type}[Inhabited α]{l:List α}{n:Int}(h0:0≤n)(h:n<l.length):l.take (n+1).toNat=l.take n.toNat ++ [gt l n]:=by
 rw[kl h0 h,← List.take_succ_eq_append_getElem (by omega)]
 congr 1;omega
def mM{α:Type}[Inhabited α]{l:List α}{n:Int}(h0:0≤n)(h:n<l.length):l.drop n.toNat=gt l n::l.drop (n.toNat+1):=by
 rw[kl h0 h];exact bG (by omega)
def z8{α:Type}[Inhabited α]{l:List α}{x:α}:x∈l↔∃ n:Int,0≤n∧n<l.length∧gt l n=x:=by
 constructor
 ·intro h
  obtain⟨i,hi,e⟩:=List.getElem_of_mem h
  exact⟨i,by omega,by omega,by rw[Hk hi,e]⟩
 ·rintro⟨n,h0,h1,rfl⟩
  exact ft h0 h1
def ky{α:Type}{l:List α}{n:Int}(h:(l.length:Int)≤n):l.take n.toNat=l:=ai (by omega)
section
variable{α:Type}[Inhabited α]{sz:Nat}{f:α→List D}{P:D→Prop}{k:IntKind}
def uK{l:List α}{n:Int}:oA (mz sz (.sl sz (l.map f)) (.val (.int k n))) P .mk=((0≤n∧n<l.length)∧P (.fj (f (gt l n)))):=by
 simp only[mz,List.length_map,true_and,yh,wj]
 refine propext ⟨fun⟨h,hp⟩=>⟨h,?_⟩,fun⟨h,hp⟩=>⟨h,?_⟩⟩
 ·rw[List.getD_eq_getElem?_getD,aq,List.getElem?_eq_getElem (by omega),aH,aL]at hp
  unfold gt
  rw[List.getD_eq_getElem?_getD,List.getElem?_eq_getElem (by omega),aL]
  exact hp
 ·rw[List.getD_eq_getElem?_getD,aq,List.getElem?_eq_getElem (by omega),aH,aL]
  unfold gt at hp
  rw[List.getD_eq_getElem?_getD,List.getElem?_eq_getElem (by omega),aL]at hp
  exact hp
@[simp] theorem an5{l:List α}{n:Int}:oA (mz sz (.sl sz (l.map f)) (.val (.int k n))) P .mk=((0≤n∧n<l.length)∧P (.fj (f (gt l n)))):=uK
@[simp] theorem an4{l:List Int}{n:Int}:oA (mz 1 (dI l) (.val (.int k n))) P .mk=((0≤n∧n<l.length)∧P (.fj [.i (gt l n)])):=by unfold dI;rw[uK,zl]
@[simp] theorem aoa{l:List Pos}{n:Int}:oA (mz 5 (gA l) (.val (.int k n))) P .mk=((0≤n∧n<l.length)∧P (.fj (gt l n).cells)):=uK
@[simp] theorem an9{l:List fe}{n:Int}:oA (mz 2 (gS l) (.val (.int k n))) P .mk=((0≤n∧n<l.length)∧P (.fj [.i (gt l n).1,.i (gt l n).2])):=by unfold gS;rw[uK,Bz]
@[simp] theorem an7{l:List α}{n:Int}:oA (mz sz (dN sz f l) (.val (.int k n))) P .mk=((0≤n∧n<l.length)∧P (.fj (f (gt l n)))):=by
 cases l with
 | nil=>
  simp only[dN,mz,Se,cO]
  refine propext ⟨fun h=>h.elim,fun⟨h,_⟩=>?_⟩
  have:=h.1;have:=h.2;simp at this;omega
 | cons a l=>exact uK
end
def De(H:U)(k:Nat)(ρ:Nat→Option Nat)(v g sz off n:Nat):Option Nat→D
 | some v'=>.eX v' g sz off n
 | none=>match rowAt H v g with
  | some (_,cs)=>if (off+n)*sz≤cs.length then .sl sz (chunks sz n ((cs.drop (off*sz)).map (e7 ρ H k)))else .any
  | none=>.any
@[simp] theorem Th(ρ:Nat→Option Nat)(H:U)(k v g sz off n:Nat):e7 ρ H (k+1) (.eX v g sz off n)=De H k ρ v g sz off n (ρ v):=by
 rw[e7,if_neg (by simp[closed])]
 unfold De;rfl
@[simp] theorem af2(H:U)(k:Nat)(ρ:Nat→Option Nat)(v g sz off n v':Nat):De H k ρ v g sz off n (some v') = .eX v' g sz off n:=rfl
def Df(H:U)(k:Nat)(ρ:Nat→Option Nat)(v g off:Nat):Option Nat→D
 | some v'=>.ptr v' g off
 | none=>match rowAt H v g with
  | some (_,cs)=>.fj ((cs.drop off).map (e7 ρ H k))
  | none=>.any
@[simp] theorem af7(ρ:Nat→Option Nat)(H:U)(k v g off:Nat):e7 ρ H (k+1) (.ptr v g off)=Df H k ρ v g off (ρ v):=by
 rw[e7,if_neg (by simp[closed])]
 unfold Df;rfl
@[simp] theorem af3(H:U)(k:Nat)(ρ:Nat→Option Nat)(v g off v':Nat):Df H k ρ v g off (some v') = .ptr v' g off:=rfl
def IQ:Option Nat→D
 | some v'=>.gF v'
 | none=>.any
@[simp] theorem af6(ρ:Nat→Option Nat)(H:U)(k v:Nat):e7 ρ H (k+1) (.gF v)=IQ (ρ v):=by
 rw[e7,if_neg (by simp[closed])]
 unfold IQ;rfl
@[simp] theorem af0(v:Nat):IQ (some v) = .gF v:=rfl
@[simp] theorem apH:IQ none = .any:=rfl
@[simp] theorem apR{ρ:Nat→Option Nat}{H:U}{k:Nat}{d:D}(h:closed d=true):e7 ρ H k d=d:=ow h
@[simp] theorem akO(cs:List D):closed (.agg cs)=fE cs:=by simp only[closed]
@[simp] theorem ak7(cs:List D):closed (.tup cs)=fE cs:=by simp only[closed]
@[simp] theorem ak4(cs:List D):closed (.fj cs)=fE cs:=by simp only[closed]
@[simp] theorem ak8(v:Value):closed (.val v)=true:=by simp only[closed]
@[simp] theorem ak3:closed .eU=true:=by simp only[closed]
@[simp] theorem OW(f:Fn)(a b:List D):closed (.fn f a b)=(fE a&&fE b):=by simp only[closed]
@[simp] theorem ak6(v g sz off n:Nat):closed (.eX v g sz off n)=false:=by simp only[closed]
@[simp] theorem ak9(v:Nat):closed (.iA v)=false:=by simp only[closed]
theorem x6{ρ:Nat→Option Nat}{H:U}{k:Nat}{cs:List D}(h:fE cs=true):cs.map (e7 ρ H k)=cs:=by
 conv=>rhs;rw[← aY cs]
 exact au fun d hd=>ow (lO h d hd)
@[simp] theorem af5(ρ:Nat→Option Nat)(H:U)(k:Nat)(cs:List D):e7 ρ H (k+1) (.agg cs) = .agg (cs.map (e7 ρ H k)):=by
 by_cases h:closed (.agg cs)=true
 ·rw[ow h,x6 (by simpa using h)]
 ·rw[e7,if_neg h]
@[simp] theorem af8(ρ:Nat→Option Nat)(H:U)(k:Nat)(cs:List D):e7 ρ H (k+1) (.tup cs) = .tup (cs.map (e7 ρ H k)):=by
 by_cases h:closed (.tup cs)=true
 ·rw[ow h,x6 (by simpa using h)]
 ·rw[e7,if_neg h]
@[simp] theorem apS(ρ:Nat→Option Nat)(H:U)(k:Nat)(c:Bool)(a b:D):e7 ρ H k (bif c then a else b)=bif c then e7 ρ H k a else e7 ρ H k b:=by cases c<;>rfl
theorem MS{ρ:Nat→Option Nat}{H:U}{k:Nat}{cs:List D}(h:fE cs=true):cs.map (e7 ρ H (k+1))=cs:=by
 conv=>rhs;rw[← aY cs]
 exact au fun d hd=>ow (lO h d hd)
theorem JD{α:Type}{sz:Nat}{f:α→List D}(hf:∀ a,(f a).length=sz):∀ l:List α,chunks sz l.length (l.map f).flatten=l.map f
 | []=>rfl
 | a::l=>by
  simp only[aO,chunks,List.map_cons,aU]
  rw[bH (by rw[hf];exact Nat.le_refl _),ai (by rw[hf];exact Nat.le_refl _),dF (by rw[hf];exact Nat.le_refl _),bh (by rw[hf];exact Nat.le_refl _),bO,JD hf l]
def ZT{α:Type}{sz:Nat}{f:α→List D}(hf:∀ a,(f a).length=sz)(l:List α):(l.map f).flatten.length=l.length*sz:=by
 induction l with
 | nil=>simp
 | cons a l ih=>simp only[List.map_cons,aU,az,hf,ih,aO,bR];omega
def OT{a b:List D}:fE (a++b)=(fE a&&fE b):=by
 induction a with
 | nil=>rfl
 | cons d a ih=>simp only[cL,fE,ih,Bool.and_assoc]
def UX{α:Type}{f:α→List D}(hf:∀ a,fE (f a)=true)(l:List α):fE (l.map f).flatten=true:=by
 induction l with
 | nil=>rfl
 | cons a l ih=>simp only[List.map_cons,aU,OT,hf,ih];rfl
class Fl {α:Type} (f:α→List D) (sz:outParam Nat):Prop where
 len:∀ a,(f a).length=sz
 cl:∀ a,fE (f a)=true
instance:Fl f1 1:=⟨fun _=>by simp,fun _=>by simp[fE]⟩
instance:Fl fB 1:=⟨fun _=>by simp,fun _=>by simp[fE]⟩
instance:Fl fS 2:=⟨fun _=>by simp,fun _=>by simp[fE]⟩
instance:Fl fP 1:=⟨fun _=>by simp,fun _=>by simp[fE]⟩
instance:Fl fI 1:=⟨fun _=>by simp,fun _=>by simp[fE]⟩
instance:Fl Pos.cells 5:=⟨fun _=>rfl,fun _=>by simp⟩
instance:Fl Kind.cells 3:=⟨fun _=>rfl,fun _=>by simp⟩
instance:Fl Clause.cells 4:=⟨fun _=>rfl,fun _=>by simp⟩
section
variable{α:Type}{f:α→List D}{sz:Nat}
@[simp] theorem UR:cl f [] = []:=by rw[nI];rfl
@[simp] theorem ze(a b:List α):cl f a++cl f b=cl f (a++b):=by simp[nI]
theorem oR(l:List α)(a:α):cl f l++f a=cl f (l ++ [a]):=by simp[nI]
def na(l:List α)(a:α):cl f (a::l)=f a++cl f l:=by simp[nI]
variable [F:Fl f sz]
include F
@[simp] theorem sS(l:List α):(cl f l).length=l.length*sz:=by rw[nI];exact ZT F.len l
theorem tW:∀ (l:List α) (n:Nat),(cl f l).take (n*sz)=cl f (l.take n)
 | [],n=>by simp
 | a::l,0=>by simp
 | a::l,n+1=>by
  rw[na,List.take_succ_cons,na,← tW l n,bR,List.take_append,F.len,ai (by rw[F.len];omega)]
  congr 2;omega
theorem sR:∀ (l:List α) (n:Nat),(cl f l).drop (n*sz)=cl f (l.drop n)
 | [],n=>by simp
 | a::l,0=>by simp
 | a::l,n+1=>by
  rw[na,List.drop_succ_cons,← sR l n,bR,List.drop_append,F.len,bh (by rw[F.len];omega),bO]
  congr 1;omega
@[simp] theorem akK(l:List α):(cl f l).take (l.length*sz)=cl f l:=by rw[tW,dy]
@[simp] theorem sQ(l:List α):fE (cl f l)=true:=by rw[nI];exact UX F.cl l
@[simp] theorem akJ{ρ:Nat→Option Nat}{H:U}(l:List α):(cl f l).map (e7 ρ H 40)=cl f l:=MS (sQ l)
@[simp] theorem zh{k:Nat}(l:List α):closed (.sl k (l.map f))=true:=by
 simp only[closed];exact zg F.cl l
def OR(l:List α)(n j:Nat)(hj:j<sz):(cl f l)[n*sz+j]? = (l[n]?).bind fun a=>(f a)[j]? := by
 have h:(cl f l)[n*sz+j]? = ((cl f l).drop (n*sz))[j]? := by rw[aD]
 rw[h,sR]
 by_cases hn:n<l.length
 ·rw[bG hn,na,ag (by rw[F.len];exact hj),List.getElem?_eq_getElem hn];rfl
 ·have h2:l[n]? = none:=aQ (Nat.le_of_not_lt hn)
  rw[bh (Nat.le_of_not_lt hn),h2];simp
def US(l:List α)(n:Nat)(a:α)(h:n<l.length):(cl f l).take (n*sz)++f a++(cl f l).drop (n*sz+sz)=cl f (l.take n++a::l.drop (n+1)):=by
 rw[tW,← bR,sR,← ze,na,aZ]
end
@[simp] theorem akv(l:List Int)(n:Nat):(cl f1 l).take n=cl f1 (l.take n):=by simpa using tW (f:=f1) l n
@[simp] theorem akt(l:List Int)(n:Nat):(cl f1 l).drop n=cl f1 (l.drop n):=by simpa using sR (f:=f1) l n
@[simp] theorem aku(l:List Int)(n:Int):cl f1 l ++ [.i n]=cl f1 (l ++ [n]):=by rw[← oR,zl]
@[simp] theorem aky(l:List (List Int))(x:List Int):cl fI l ++ [dI x]=cl fI (l ++ [x]):=by rw[← oR,Ww]
@[simp] theorem akC(l:List (List fe))(x:List fe):cl fP l ++ [gS x]=cl fP (l ++ [x]):=by rw[← oR,Wx]
@[simp] theorem akE(l:List fe)(a b:Int):cl fS l ++ [.i a,.i b]=cl fS (l ++ [(a,b)]):=by rw[← oR,Bz]
@[simp] theorem akD(l:List Pos)(a b c:List Int)(r q:Int):cl Pos.cells l ++ [dI a,dI b,dI c,.i r,.i q]=cl Pos.cells (l ++ [⟨a,b,c,r,q⟩]):=by rw[← oR];rfl
@[simp] theorem ao5(p:Pos):Pos.mk p.cs p.h0 p.h1 p.fH p.side=p:=rfl
@[simp] theorem an0{l:List Int}{n:Int}{P:D→Prop}:oA (cl f1 l)[n.toNat]? P .mk=(n.toNat<l.length∧P (.i (gt l n))):=by
 have h:=OR (f:=f1) l n.toNat 0 (by omega)
 simp only[cI,bQ]at h
 rw[h]
 by_cases hn:n.toNat<l.length
 ·rw[List.getElem?_eq_getElem hn]
  have e:gt l n=l[n.toNat]:=by unfold gt;rw[List.getD_eq_getElem?_getD,List.getElem?_eq_getElem hn];rfl
  simp[hn,e]
 ·rw[aQ (by omega)];simp[hn]
@[simp] theorem aat{α:Type}[Inhabited α]{f:α→List D}{sz:Nat}[F:Fl f sz]{l:List α}{t:TypeId}{n:Int}{P:D→Prop}(hz:0<sz):oA (ry sz (n.toNat*sz) (some (t,cl f l))) P .mk=(n.toNat<l.length∧P (.agg (f (gt l n)))):=by
 simp only[ry,sS,← bR]
 rw[yh,wj]
 have h:n.toNat.succ*sz≤l.length*sz↔n.toNat<l.length:=et hz
 rw[h]
 refine propext ⟨fun⟨a,p⟩=>⟨a,?_⟩,fun⟨a,p⟩=>⟨a,?_⟩⟩
 ·have e:gt l n=l[n.toNat]:=by unfold gt;rw[List.getD_eq_getElem?_getD,List.getElem?_eq_getElem a];rfl
  rw[sR,bG a,na,bH (by rw[F.len];exact Nat.le_refl _),ai (by rw[F.len];exact Nat.le_refl _),← e]at p
  exact p
 ·have e:gt l n=l[n.toNat]:=by unfold gt;rw[List.getD_eq_getElem?_getD,List.getElem?_eq_getElem a];rfl
  rw[sR,bG a,na,bH (by rw[F.len];exact Nat.le_refl _),ai (by rw[F.len];exact Nat.le_refl _),← e]
  exact p
def lQ(ρ:Nat→Option Nat)(H:U)(k sz off n:Nat):Option (TypeId×List D)→D
 | some (_,cs)=>if (off+n)*sz≤cs.length then .sl sz (chunks sz n ((cs.drop (off*sz)).map (e7 ρ H k)))else .any
 | none=>.any
@[simp] theorem af1(H:U)(k:Nat)(ρ:Nat→Option Nat)(v g sz off n:Nat):De H k ρ v g sz off n none=lQ ρ H k sz off n (rowAt H v g):=by
 unfold De lQ;rfl
@[simp] theorem sY{α:Type}{f:α→List D}{sz:Nat}[F:Fl f sz]{ρ:Nat→Option Nat}{H:U}{k n:Nat}{t:TypeId}{l:List α}(h:n=l.length):lQ ρ H (k+1) sz 0 n (some (t,cl f l)) = .sl sz (l.map f):=by
 subst h
 unfold lQ
 dsimp only
 rw[sS,if_pos (by simp),cu,dj,MS (sQ l),nI,JD F.len]
@[simp] theorem alO{ρ:Nat→Option Nat}{H:U}{k sz:Nat}{p:TypeId×List D}:lQ ρ H k sz 0 0 (some p) = .sl sz []:=by
 unfold lQ;simp[chunks]
@[simp] theorem alQ{ρ:Nat→Option Nat}{H:U}{k:Nat}{t:TypeId}{a b c:List Int}{r q:Int}:lQ ρ H (k+1) 5 0 1 (some (t,[dI a,dI b,dI c,.i r,.i q]))=gA [⟨a,b,c,r,q⟩]:=by
 have h:=sY (f:=Pos.cells) (ρ:=ρ) (H:=H) (k:=k) (t:=t) (l:=[⟨a,b,c,r,q⟩]) (n:=1) rfl
 rw[nI]at h
 unfold gA;exact h
@[simp] theorem aqe(l:List Int):D.sl 1 (l.map f1)=dI l:=by unfold dI;rfl
@[simp] theorem aqh(l:List Pos):D.sl 5 (l.map Pos.cells)=gA l:=by unfold gA;rfl
@[simp] theorem aqg(l:List fe):D.sl 2 (l.map fS)=gS l:=by unfold gS;rfl
def rD(ρ:Nat→Option Nat)(H:U):Option Ob→Ob
 | some o=>nW ρ H o
 | none=>.dead
@[simp] theorem apQ(ρ:Nat→Option Nat)(H:U)(t g:Nat)(cs:List D):rD ρ H (some (.row t g cs)) = .row t g (cs.map (e7 ρ H 40)):=rfl
@[simp] theorem apN(ρ:Nat→Option Nat)(H:U)(kk:KK)(es:List (Value×D)):rD ρ H (some (.map kk es)) = .map kk (es.map fun x=>(x.1,e7 ρ H 40 x.2)):=rfl
@[simp] theorem apL(ρ:Nat→Option Nat)(H:U):rD ρ H (some .dead) = .dead:=rfl
@[simp] theorem apM(ρ:Nat→Option Nat)(H:U):rD ρ H (some .kJ) = .kJ:=rfl
@[simp] theorem apP(ρ:Nat→Option Nat)(H:U)(rf:Nat)(e:Env)(st:qp):rD ρ H (some (.gL rf e st)) = .gL rf (e.map fun x=>(x.1,e7 ρ H 40 x.2)) st:=rfl
@[simp] theorem anN:yf []=false:=(rfl)
@[simp] theorem anM(k:Nat)(l:List Nat):yf (k::l)=decide (k=9999):=by
 show Nat.beq k 9999=_
 cases hb:Nat.beq k 9999 with
 | true=>exact(decide_eq_true (cz hb)).symm
 | false=>exact(decide_eq_false (Nat.ne_of_beq_eq_false hb)).symm
def JM(env:Env)(H:U)(m:List Nat)(r:Bool)(ks:mi):St:={ env:=env.map fun p=>(p.1,e7 (ic ks) H 40 p.2),H:=ks.map fun p=>if p.2 then rD (ic ks) H H[p.1]? else .dead,marks:=m.map fun v=>(ic ks v).getD v,gZ:=r }
def MB(n:Nat)(env:Env)(H:U)(m:List Nat):List Nat:=dedup (((env.map fun p=>iH n p.2).flatten++((H.take n).map (oo n)).flatten++m.filter (n≤·)).filter (· < H.length))
@[simp low] theorem O8{n:Nat}{live:List Nat}{env:Env}{H:U}{m:List Nat}{r:Bool}(h:¬ H.length≤n)(h9:yf live=false):cut n live { env:=env,H:=H,marks:=m,gZ:=r }=JM (forget live env) H m r (iF n (MB n (forget live env) H m)):=by
 unfold cut JM MB
 dsimp only
 rw[if_neg (by rw[h9];simpa using h)]
 rfl
@[simp] theorem amj(K:List Nat):iF 0 K=K.map fun v=>(v,true):=rfl
@[simp] theorem amk(K:List Nat):iF 1 K=(0,true)::K.map fun v=>(v,true):=rfl
@[simp] theorem amv(K:List Nat):iF 2 K=(0,true)::(1,true)::K.map fun v=>(v,true):=rfl
@[simp] theorem amA(K:List Nat):iF 3 K=(0,true)::(1,true)::(2,true)::K.map fun v=>(v,true):=rfl
@[simp] theorem amB(K:List Nat):iF 4 K=(0,true)::(1,true)::(2,true)::(3,true)::K.map fun v=>(v,true):=rfl
def wx(i:Nat):mi→Nat→Option Nat
 | [],_=>none
 | p::r,v=>if p.2&&p.1 == v then some i else wx (i+1) r v
def afA(ks:mi)(v:Nat):ic ks v=wx 0 ks v:=by
 have key:∀ (ks:mi) (i:Nat),wx i ks v=(ks.findIdx? (fun p=>p.2&&p.1 == v)).map (· + i):=by
  intro ks
  induction ks with
  | nil=>intro i;rfl
  | cons p r ih=>
   intro i
   rw[List.findIdx?_cons]
   unfold wx
   split
   ·simp
   ·rw[ih,Option.map_map]
    congr 1;funext x;simp;omega
 rw[key];simp[ic]
@[simp] theorem apy(v:Nat):ic [] v=none:=rfl
@[simp] theorem apx(p:Nat×Bool)(r:mi)(v:Nat):ic (p::r) v=if (p.2&&p.1 == v)=true then some 0 else wx 1 r v:=by
 rw[afA];rfl
@[simp] theorem apw(i v:Nat):wx i [] v=none:=rfl
@[simp] theorem apv(i:Nat)(p:Nat×Bool)(r:mi)(v:Nat):wx i (p::r) v=if (p.2&&p.1 == v)=true then some i else wx (i+1) r v:=rfl
@[simp] theorem ale(env:Env)(H:U)(m:List Nat)(r:Bool)(ks:mi):JM env H m r ks = { env:=env.map fun p=>(p.1,e7 (ic ks) H 40 p.2),H:=ks.map fun p=>if p.2 then rD (ic ks) H H[p.1]? else .dead,marks:=m.map fun v=>(ic ks v).getD v,gZ:=r }:=rfl
@[simp] theorem apf(n:Nat)(env:Env)(H:U)(m:List Nat):MB n env H m=dedup (((env.map fun p=>iH n p.2).flatten++((H.take n).map (oo n)).flatten++m.filter (n≤·)).filter (· < H.length)):=rfl
@[simp] theorem alg:dedup [] = []:=rfl
@[simp] theorem alf(x:Nat)(r:List Nat):dedup (x::r)=if x∈r then dedup r else x::dedup r:=rfl
theorem I8(n:Nat){d:D}(h:closed d=true):iH n d = []:=by
 cases d<;>first|rfl|cases h
@[simp] theorem aqL(n:Nat)(l:List Int):iH n (dI l) = []:=rfl
@[simp] theorem aqQ(n:Nat)(l:List Pos):iH n (gA l) = []:=rfl
@[simp] theorem aqO(n:Nat)(p:Pos):iH n (dP p) = []:=rfl
@[simp] theorem aqP(n:Nat)(l:List fe):iH n (gS l) = []:=rfl
@[simp] theorem aqK(n:Nat)(g:eY):iH n (dG g) = []:=rfl
@[simp] theorem aqI(n:Nat)(g:eY):iH n g.iY = []:=rfl
@[simp] theorem aqM{α:Type}(n sz:Nat)(f:α→List D)(l:List α):iH n (dN sz f l) = []:=by cases l<;>rfl
@[simp] theorem aq2(n:Nat)(v:Value):iH n (.val v) = []:=rfl
@[simp] theorem aqH(n:Nat):iH n .any = []:=rfl
@[simp] theorem aqT(n:Nat):iH n .eU = []:=rfl
@[simp] theorem aqG(n:Nat)(cs:List D):iH n (.agg cs) = []:=rfl
@[simp] theorem aq1(n:Nat)(cs:List D):iH n (.tup cs) = []:=rfl
@[simp] theorem aqV(n:Nat)(cs:List D):iH n (.fj cs) = []:=rfl
@[simp] theorem aq0(n sz:Nat)(es:List (List D)):iH n (.sl sz es) = []:=rfl
@[simp] theorem aqU(n:Nat)(f:Fn)(a b:List D):iH n (.fn f a b) = []:=rfl
@[simp] theorem aqY(n v g sz off len:Nat):iH n (.eX v g sz off len)=if n≤v then [v]else []:=rfl
@[simp] theorem aqZ(n v g off:Nat):iH n (.ptr v g off)=if n≤v then [v]else []:=rfl
@[simp] theorem aqX(n v:Nat):iH n (.gF v)=if n≤v then [v]else []:=rfl
@[simp] theorem aq3(n v:Nat):iH n (.iA v)=if n≤v then [v]else []:=rfl
theorem afr(n:Nat){cs:List D}(h:fE cs=true):(cs.map (iH n)).flatten = []:=by
 induction cs with
 | nil=>rfl
 | cons d r ih=>
  simp only[fE,ah]at h
  simp[I8 n h.1,ih h.2]
@[simp] theorem akI(n:Nat){α:Type}{f:α→List D}{sz:Nat}[F:Fl f sz](l:List α):((cl f l).map (iH n)).flatten = []:=afr n (sQ l)
@[simp] theorem aos(n t g:Nat)(cs:List D):oo n (.row t g cs)=(cs.map (iH n)).flatten:=rfl
@[simp] theorem aoo(n:Nat)(kk:KK)(es:List (Value×D)):oo n (.map kk es)=(es.map fun x=>iH n x.2).flatten:=rfl
@[simp] theorem aom(n:Nat):oo n .dead = []:=rfl
theorem ZM{H:U}{d:D}(h:H≠[]):leave 0 0 H d=(e7 (fun _=>none) H 40 d,[]):=by
 unfold leave
 rw[if_neg (by rintro(e|e);exact h (aB.1 (by omega));cases e)]
 rfl
@[simp] theorem am3{o:Ob}{r:U}{d:D}:leave 0 0 (o::r) d=(e7 (fun _=>none) (o::r) 40 d,[]):=ZM (by simp)
attribute [simp] and_assoc Kind.cells Clause.cells dP Pos.cells dG eY.cells eY.iY
def kS(T:gP)(n:Nat)(live:List Nat)(a:IR)(s:St)(K:iv)(_:Tag (live,a,s,K)):Prop:=Ev T (.loop n live (kG a) s) (PO K)
def Ie(T:gP)(n:Nat)(live:List Nat)(a:IR)(K:iv):iv:=fun o=>match o with
 | .norm s=>kS T n live a (cut n live s) K .mk
 | o=>K o
def S2(T:gP)(v rf:Nat)(b:IR)(dst:Option Nat)(s:St)(K:St→Prop):iv:=fun o=>match o with
 | .norm s1=>∃ kA,s1.H[v]? = some (.gL rf kA .ready)∧XC T b { s1 with H:=s1.H.set v (.gL rf kA .busy) } (yp v rf dst s K)
 | _=>False
def pU.r{T:gP}{v rf:Nat}{args:List D}{dst:Option Nat}{s:St}{K:St→Prop}{env0:Env}{Rd:nD}(hv:s.H[v]? = some (.gL rf env0 .ready))(hR:T.round rf=some Rd)(hl:args.length=Rd.params.length)
  (ca cb:IR) (ha:kG ca=Rd.a) (hb:kG cb=Rd.b)
  (h:XC T ca { env:=qQ Rd.params args env0,H:=s.H,gZ:=true } (S2 T v rf cb dst s K)):pU T v args dst s K .mk:=by
 refine⟨rf,env0,Rd,hv,hR,hl,?_⟩
 rw[← ha]
 refine(XC.wc h).mono fun o ho=>?_
 cases o with
 | norm s1=>
  obtain⟨kA,h1,h2⟩:=ho
  exact⟨s1,kA,rfl,h1,by rw[← hb];exact XC.wc h2⟩
 | exit=>exact ho.elim
 | ret=>exact ho.elim
def afC(rf:Nat)(s:St)(K:iv):D→U→Prop:=fun _ H'=>∃ env st,H'[s.H.length+1]? = some (.gL rf env st)∧oA (ym { s with H:=H'.set (s.H.length+1) .dead,marks:=s.H.length::s.marks } st) K .mk
def wV.r{T:gP}{rf:Nat}{live:List Nat}{x:X}{s:St}{K:iv}{f:FuncId}{first cap:List D}{fn:eV}(hr:s.gZ=false)(hx:ev s.env.get x = .fn (.func f) first cap)(hf:T.fn f=some fn)(hp:fn.full=true)
  (h:Wf T f (first ++ [.iA (s.H.length+1)]++cap) (s.H ++ [.kJ,.gL rf (forget live s.env) .ready]) (afC rf s K)):wV T rf live x s K .mk:=
 Ev.lZ hr hx hf hp h fun d H' ⟨d',H2,he,env,st,h1,o,h2,h3⟩=>by
  cases he
  exact⟨env,st,o,h1,h2,o,rfl,h3⟩
section
variable{T:gP}{n:Nat}{live:List Nat}{a:IR}{s:St}{K:iv}{id:Nat}
def fh.un(h:kS T s.H.length live a { s with env:=forget live s.env } K .mk):fh T live a s K .mk:=Ev.loop h
def kS.u(h:XC T a s (Ie T n live a K)):kS T n live a s K .mk:=by
 refine Ev.we (XC.wc h) (fun Dd ⟨o,e,k⟩=>?_) fun o ⟨o',e,k⟩ hs=>?_
 ·cases e;exact k
 ·cases e
  cases o with
  | norm=>cases hs
  | exit=>exact⟨_,rfl,k⟩
  | ret=>exact⟨_,rfl,k⟩
@[simp ↓] theorem anv:Ie T n live a K (.norm s)=kS T n live a (cut n live s) K .mk:=(rfl)
@[simp ↓] theorem anu:Ie T n live a K (.exit id s)=K (.exit id s):=(rfl)
@[simp ↓] theorem anw:Ie T n live a K (.ret s)=K (.ret s):=(rfl)
end
def Xk{x b:Bool}{P Q:Prop}(k:cond b P Q)(h:x=b:=by first|(show _=true;first|assumption|exact decide_eq_true (by assumption))|(show _=false;first|assumption|exact decide_eq_false (by assumption))):X2 x P Q .mk:=by
 subst h;cases x<;>simpa using k
class PB (x:Bool) (I:outParam (Prop→Prop)) (q:outParam Prop):Prop where
 t:∀ {P:Prop},I P→x=true→P
 f:x=false→q
instance(priority:=low){x:Bool}:PB x (fun P=>x=true→P) (x=false):=⟨fun h e=>h e,id⟩
instance{p:Prop}[Decidable p]:PB (decide p) (fun P=>p→P) (¬p):=⟨fun h e=>h (of_decide_eq_true e),of_decide_eq_false⟩
instance{p q:Prop}[Decidable p][Decidable q]:PB (decide p&&decide q) (fun P=>p→q→P) (¬(p∧q)):=⟨fun h e=>by
 rw[← cD]at e
 exact h (of_decide_eq_true e).1 (of_decide_eq_true e).2,fun e=>by rw[← cD]at e;exact of_decide_eq_false e⟩
instance{p q:Prop}[Decidable p][Decidable q]:PB (decide p||decide q) (fun P=>p∨q→P) (¬(p∨q)):=⟨fun h e=>by
 rw[← eG]at e
 exact h (of_decide_eq_true e),fun e=>by rw[← eG]at e;exact of_decide_eq_false e⟩
def Xs{x:Bool}{I:Prop→Prop}{q P Q:Prop}[c:PB x I q](h:I P)(k:q→Q):X2 x P Q .mk:=⟨c.t h,fun e=>k (c.f e)⟩
def Yc{T:gP}{f:FuncId}{args:List D}{dst:Option Nat}{s:St}{K:St→Prop}{fn:eV}{x:D}(h:Wf T f args [] fun d H'=>d=x∧H' = [])(k:K { s with env:=put s.env dst x })
  (hf:T.fn f=some fn:=by exact rfl) (hp:fn.full=false:=by exact rfl) (hc:fE args=true:=by simp) (hx:closed x=true:=by simp):fG T f args dst s K .mk:=fG.c hf hp h hc hx k
def Yt{T:gP}{f:FuncId}{args:List D}{R:List Fp}{dst:Option Nat}{s:St}{Q:Rc→St→Prop}{fn:eV}{x:D}(h:Wf T f args [] fun d H'=>d=x∧H' = [])(k:Q ⟨R,[]⟩ { s with env:=put s.env dst x })
  (hf:T.fn f=some fn:=by exact rfl) (hp:fn.full=false:=by exact rfl) (hc:fE args=true:=by simp) (hx:closed x=true:=by simp):iC T f args R dst s Q .mk:=iC.c hf hp h hc hx k
def Yr{T:gP}{f:FuncId}{args mZ:List D}{dst:Option Nat}{s:St}{K:St→Prop}{fn:eV}{x:D}(h:Wf T f mZ [] fun d H'=>d=x∧H' = [])(k:K { s with env:=put s.env dst x })
  (hf:T.fn f=some fn:=by exact rfl) (hp:fn.full=false:=by exact rfl) (hs:args.map (e7 (fun _=>none) s.H 40)=mZ:=by simp) (hx:flat x=true:=by simp[flat]) (kD:closed x=true:=by simp):fG T f args dst s K .mk:=fG.r hf hp h hs hx kD k
def Yg{T:gP}{f:FuncId}{args:List D}{H:U}(fn:eV){K:D→U→Prop}(h:XC T fn.body { env:=qI args,H:=H } (vA fn.results fn.own H.length K))
  (hf:T.fn f=some fn:=by exact rfl) (hl:args.length≤fn.ntmps:=by exact cE rfl) (hz:qK fn.body=true:=by exact rfl):Wf T f args H K:=Wf.x hf hl h hz
def Yz{T:gP}{f:FuncId}{args:List D}{H:U}(fn:eV)(c:IR){K:D→U→Prop}(h:XC T c { env:=qI args,H:=H } (vA fn.results fn.own H.length K))
  (hf:T.fn f=some fn:=by exact rfl) (hl:args.length≤fn.ntmps:=by exact cE rfl) (hc:kG c=fn.body:=by simp only[wG,wH];exact nY rfl):Wf T f args H K:=Wf.xz fn.own c hf hl hc h
