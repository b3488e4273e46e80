/- 9 -/
import Derived.Test.YtnaefnajkaohgaaGreatDoorH08
set_option linter.all false
namespace Go.AL
open Go
universe u
inductive Tag{α:Sort u}(a:α):Type
 | mk
def oA{α:Type}(x:Option α)(P:α→Prop)(_:Tag P):Prop:=∃ a,x=some a∧P a
@[simp] theorem ye{α:Type}(a:α)(P:α→Prop):oA (some a) P .mk=P a:=by simp[oA]
@[simp] theorem RP{α:Type}(P:α→Prop):oA none P .mk=False:=by simp[oA]
@[simp high] theorem Ac{α:Type}{c:Prop}[Decidable c](x:Option α)(P:α→Prop):oA (if c then x else none) P .mk=(c∧oA x P .mk):=by
 by_cases h:c<;>simp[h]
@[simp] theorem an4{α:Type}{c:Prop}[Decidable c](x y:Option α)(P:α→Prop):oA (if c then x else y) P .mk=((c→oA x P .mk)∧(¬c→oA y P .mk)):=by
 by_cases h:c<;>simp[h]
@[simp] theorem an5(x:Option D)(P:D×Dl→Prop):oA (lift x) P .mk=oA x (fun d=>P (d,.no)) .mk:=by
 cases x<;>simp[lift]
@[simp] theorem anU{α β:Type}(x:Option α)(f:α→Option β)(P:β→Prop):oA (x.bind f) P .mk=oA x (fun a=>oA (f a) P .mk) .mk:=by
 cases x<;>simp
def gB:D→Bool→Option Bool
 | .val (.bool b),want=>some (b == want)
 | .val (.tuple _),_=>some false
 | _,_=>none
@[simp] theorem alY(want:Bool):gB (.val undef) want=some false:=rfl
@[simp] theorem alX(x:Bool):gB (.b x) true=some x:=by cases x<;>rfl
@[simp] theorem alW(x:Bool):gB (.b x) false=some (!x):=by cases x<;>rfl
@[simp] theorem al2(f:fQ)(j:Nat)(w:Bool):guardOf f (some (j,w))=gB (f j) w:=by
 show(match f j with | .val (.bool b)=>some (b == w) | .val (.tuple _)=>some false|_=>none)=gB (f j) w
 unfold gB;split<;>simp_all
@[simp] theorem alm(f:fQ)(k:Nat):ev f (.t k)=f k:=rfl
@[simp] theorem alk(f:fQ)(d:D):ev f (.c d)=d:=rfl
@[simp] theorem aoX(env:Env)(k:Nat)(d:D):put env (some k) d=(k,d)::env:=rfl
@[simp] theorem aoW(env:Env)(d:D):put env none d=env:=rfl
@[simp] theorem aji(H:U)(al:Al):Dl.no.app H al=H:=rfl
@[simp] theorem ajh(H:U)(al:Al)(ob:Ob):(Dl.new ob).app H al=al.2 ob:=rfl
@[simp] theorem ajj(H:U)(al:Al)(v:Nat)(ob:Ob):(Dl.obj v ob).app H al=H.set v ob:=rfl
def setCells(H:U)(v o:Nat)(xs:List D):Option Ob→U
 | some (.row t g cs)=>H.set v (.row t g (cs.take o++xs++cs.drop (o+xs.length)))
 | _=>H
@[simp] theorem ajf(H:U)(al:Al)(v o:Nat)(xs:List D):(Dl.cells v o xs).app H al=setCells H v o xs H[v]? := by
 show(match H[v]? with|some (.row t g cs)=>H.set v (.row t g (cs.take o++xs++cs.drop (o+xs.length)))|_=>H)=_
 unfold setCells;split<;>simp_all
@[simp] theorem apv(H:U)(v o:Nat)(xs:List D)(t g:Nat)(cs:List D):setCells H v o xs (some (.row t g cs))=H.set v (.row t g (cs.take o++xs++cs.drop (o+xs.length))):=rfl
def Jh(k:IntKind)(a b:Int):Int:=k.wrap (a*2 ^ (min b.toNat k.bits))
def tV(k:IntKind)(a b:Int):Int:=a.fdiv (2 ^ (min b.toNat k.bits))
section
variable{k:IntKind}{a b:Int}
@[simp] theorem ajw:kE .add (.val (.int k a)) (.val (.int k b))=jr .add k a b:=by simp[kE,o7]
@[simp] theorem ajL:kE .sub (.val (.int k a)) (.val (.int k b))=jr .sub k a b:=by simp[kE,o7]
@[simp] theorem ajE:kE .mul (.val (.int k a)) (.val (.int k b))=jr .mul k a b:=by simp[kE,o7]
@[simp] theorem ajG:kE .quo (.val (.int k a)) (.val (.int k b))=jr .quo k a b:=by simp[kE,o7]
@[simp] theorem ajH:kE .rem (.val (.int k a)) (.val (.int k b))=jr .rem k a b:=by simp[kE,o7]
@[simp] theorem ajx:kE .and (.val (.int k a)) (.val (.int k b))=some (.val (.int k (bits .and k a b))):=by simp[kE,o7,jr]
@[simp] theorem ajy:kE .andNot (.val (.int k a)) (.val (.int k b))=some (.val (.int k (bits .andNot k a b))):=by simp[kE,o7,jr]
@[simp] theorem ajz:kE .eql (.val (.int k a)) (.val (.int k b))=some (.b (decide (a=b))):=by simp[kE,o7,jr,BEq.beq]
@[simp] theorem ajF:kE .neq (.val (.int k a)) (.val (.int k b))=some (.b (!decide (a=b))):=by simp[kE,o7,jr,bne,BEq.beq]
@[simp] theorem ajD:kE .lss (.val (.int k a)) (.val (.int k b))=some (.b (decide (a<b))):=by simp[kE,o7,jr]
@[simp] theorem ajC:kE .leq (.val (.int k a)) (.val (.int k b))=some (.b (decide (a≤b))):=by simp[kE,o7,jr]
@[simp] theorem ajB:kE .gtr (.val (.int k a)) (.val (.int k b))=some (.b (decide (a>b))):=by simp[kE,o7,jr]
@[simp] theorem ajA:kE .geq (.val (.int k a)) (.val (.int k b))=some (.b (decide (a≥b))):=by simp[kE,o7,jr]
@[simp] theorem ajI{k2:IntKind}:kE .shl (.val (.int k a)) (.val (.int k2 b))=if 0≤b then some (.val (.int k (Jh k a b)))else none:=rfl
@[simp] theorem ajJ{k2:IntKind}:kE .shr (.val (.int k a)) (.val (.int k2 b))=if 0≤b then some (.val (.int k (tV k a b)))else none:=rfl
@[simp] theorem ajK(op:BinOp)(s t:ByteArray):kE op (.val (.string s)) (.val (.string t))=Aw op s t:=rfl
@[simp] theorem aqS(x:Bool):DF .not (.b x)=some (.b !x):=rfl
@[simp] theorem ak7(k':IntKind):GZ k' (.val (.int k a))=some (.val (.int k' (k'.wrap a))):=rfl
end
@[simp] theorem alq(off v g o:Nat):BH off (.ptr v g o)=some (.ptr v g (o+off)):=rfl
@[simp] theorem alp(off:Nat)(cs:List D):BH off (.eW cs)=some (.eW (cs.drop off)):=rfl
@[simp] theorem alr(off n:Nat)(cs:List D):xm off n true (.agg cs)=if off+n≤cs.length then some (.agg ((cs.drop off).take n))else none:=rfl
@[simp] theorem als(off n:Nat)(cs:List D):xm off n false (.agg cs)=cs[off]? := rfl
@[simp] theorem aln(ds:List D)(i:Nat):He (.tup ds) i=ds[i]? := rfl
@[simp] theorem anF(v g o:Nat):ya (.ptr v g o)=some (.ptr v g o):=rfl
@[simp] theorem anE(cs:List D):ya (.eW cs)=some (.eW cs):=rfl
def rowOf(k:Nat):Option Ob→Option (TypeId×List D)
 | some (.row t g cs)=>if g=k then some (t,cs)else none
 | _=>none
@[simp] theorem afQ(H:U)(v k:Nat):rowAt H v k=rowOf k H[v]? := by
 unfold rowAt rowOf;split<;>simp_all
@[simp] theorem afR(k:Nat)(t:TypeId)(g:Nat)(cs:List D):rowOf k (some (.row t g cs))=if g=k then some (t,cs)else none:=rfl
@[simp] theorem amQ(v g o:Nat)(H:U):tG (.ptr v g o) H=(rowAt H v g).bind fun p=>p.2[o]? := by
 show(match rowAt H v g with|some (_,cs)=>cs[o]? | none=>none)=_
 cases rowAt H v g<;>rfl
@[simp] theorem amP(cs:List D)(H:U):tG (.eW cs) H=cs[0]? := rfl
def tI(n o:Nat):Option (TypeId×List D)→Option D
 | some p=>if o+n≤p.2.length then some (.agg ((p.2.drop o).take n))else none
 | none=>none
@[simp low] theorem amW(n o:Nat)(p:TypeId×List D):tI n o (some p)=if o+n≤p.2.length then some (.agg ((p.2.drop o).take n))else none:=rfl
@[simp] theorem amS(n v g o:Nat)(H:U):tH n (.ptr v g o) H=tI n o (rowAt H v g):=by
 show(match rowAt H v g with|some (_,cs)=>if o+n≤cs.length then some (D.agg ((cs.drop o).take n))else none|none=>none)=_
 cases rowAt H v g<;>rfl
@[simp] theorem amR(n:Nat)(cs:List D)(H:U):tH n (.eW cs) H=if n≤cs.length then some (.agg (cs.take n))else none:=rfl
@[simp] theorem aqm(v g o:Nat)(x:D)(H:U):yB (.ptr v g o) x H=(rowAt H v g).bind fun p=>if o<p.2.length∧one x=true then some (.any,.cells v o [x])else none:=by
 show(match rowAt H v g with|some (_,cs)=>if o<cs.length∧one x=true then some (D.any,Dl.cells v o [x])else none|none=>none)=_
 cases rowAt H v g<;>rfl
@[simp] theorem aqn(n v g o:Nat)(xs:List D)(H:U):yC n (.ptr v g o) (.agg xs) H=(rowAt H v g).bind fun p=>if xs.length=n∧o+n≤p.2.length then some (.any,.cells v o xs)else none:=by
 show(match rowAt H v g with|some (_,cs)=>if xs.length=n∧o+n≤cs.length then some (D.any,Dl.cells v o xs)else none|none=>none)=_
 cases rowAt H v g<;>rfl
@[simp] theorem ajQ(t:TypeId)(cs:List D)(n:Nat):po t (.agg cs) n=some (.ptr n 0 0,.new (.row t 0 cs)):=rfl
@[simp] theorem aj9(cs:List D):cellsOf (.agg cs)=some cs:=rfl
@[simp] theorem akh(k:IntKind)(n:Int):cellsOf (.val (.int k n))=some [.val (.int k n)]:=rfl
@[simp] theorem aka(b:Bool):cellsOf (.b b)=some [.b b]:=rfl
@[simp] theorem akm(b:ByteArray):cellsOf (.val (.string b))=some [.val (.string b)]:=rfl
@[simp] theorem akl(sz:Nat)(es:List (List D)):cellsOf (.sl sz es)=some [.sl sz es]:=rfl
@[simp] theorem akb(l:List Int):cellsOf (dI l)=some [dI l]:=rfl
@[simp] theorem Uk(l:List Pos):cellsOf (e7 l)=some [e7 l]:=rfl
@[simp] theorem Uj(l:List eO):cellsOf (fh l)=some [fh l]:=rfl
@[simp] theorem ake:cellsOf .eG=some [.eG]:=rfl
@[simp] theorem akj(v g sz off n:Nat):cellsOf (.eF v g sz off n)=some [.eF v g sz off n]:=rfl
@[simp] theorem akf(f:Fn)(a b:List D):cellsOf (.fn f a b)=some [.fn f a b]:=rfl
@[simp] theorem aoE(k:IntKind)(n:Int):one (.val (.int k n))=true:=rfl
@[simp] theorem aow(b:Bool):one (.b b)=true:=rfl
@[simp] theorem aoy(l:List eO):one (fh l)=true:=rfl
@[simp] theorem aoG(v g sz off n:Nat):one (.eF v g sz off n)=true:=rfl
@[simp] theorem aoC(f:Fn)(a b:List D):one (.fn f a b)=true:=rfl
@[simp] theorem aj1(f:fQ)(z:List D)(ps:List (Nat×Nat×X)):y9 f z ps=(partsOf f ps).bind fun l=>(lay l z).bind fun cs=>some (D.agg cs):=by
 unfold y9;cases partsOf f ps with
 | none=>rfl
 | some l=>simp only[Option.bind_some];cases lay l z<;>rfl
@[simp] theorem aj0(f:fQ)(t sz:Nat)(z:List D)(m:Nat)(ps:List (Nat×X))(n:Nat):vB f t sz z m ps n=(partsOf f (ps.map fun p=>(p.1*sz,sz,p.2))).bind fun l=>(lay l (List.replicate m z).flatten).bind fun cs=>some (.eF n 0 sz 0 m,.new (.row t 0 cs)):=by
 unfold vB;cases partsOf f (ps.map fun p=>(p.1*sz,sz,p.2))with
 | none=>rfl
 | some l=>simp only[Option.bind_some];cases lay l (List.replicate m z).flatten<;>rfl
@[simp] theorem aoR(f:fQ):partsOf f []=some []:=rfl
@[simp] theorem aoQ(f:fQ)(o n:Nat)(x:X)(r:List (Nat×Nat×X)):partsOf f ((o,n,x)::r)=(cellsOf (ev f x)).bind fun cs=>(partsOf f r).bind fun l=>some ((o,n,cs)::l):=by
 show(match cellsOf (ev f x),partsOf f r with|some cs,some l=>some ((o,n,cs)::l)|_,_=>none)=_
 cases cellsOf (ev f x)<;>cases partsOf f r<;>rfl
@[simp] theorem ame(sz v g off len:Nat)(k:IntKind)(n:Int):nS sz (.eF v g sz off len) (.val (.int k n))=if 0≤n∧n<len then some (.ptr v g ((off+n.toNat)*sz))else none:=by
 simp[nS]
@[simp] theorem amg(sz n v g o:Nat)(k:IntKind)(i:Int):Cu sz n (.ptr v g o) (.val (.int k i))=if 0≤i∧i<n then some (.ptr v g (o+i.toNat*sz))else none:=rfl
@[simp] theorem amf(sz n:Nat)(cs:List D)(k:IntKind)(i:Int):Cu sz n (.eW cs) (.val (.int k i))=if 0≤i∧i<n then some (.eW (cs.drop (i.toNat*sz)))else none:=rfl
@[simp] theorem ajO(f:fQ)(n:Int):iz f none n=some n:=rfl
def LR:D→Option Int
 | .val (.int _ n)=>some n
 | _=>none
@[simp] theorem amj(k:IntKind)(n:Int):LR (.val (.int k n))=some n:=rfl
@[simp] theorem ajP(f:fQ)(x:X)(n:Int):iz f (some x) n=LR (ev f x):=by
 show(match ev f x with | .val (.int _ n)=>some n|_=>none)=_
 unfold LR;split<;>simp_all
@[simp] theorem agk(f:fQ)(sz:Nat)(es:List (List D))(lo hi:Option X):sN f sz (.sl sz es) lo hi=(iz f lo 0).bind fun l=>(iz f hi es.length).bind fun h=>if 0≤l∧l≤h∧h≤es.length then some (.sl sz ((es.drop l.toNat).take (h.toNat-l.toNat)))else none:=by
 simp only[sN]
 cases iz f lo 0<;>cases iz f hi es.length<;>simp
@[simp] theorem aqd(f:fQ)(sz v g off len:Nat)(lo hi:Option X):sN f sz (.eF v g sz off len) lo hi=(iz f lo 0).bind fun l=>(iz f hi len).bind fun h=>if 0≤l∧l≤h∧h≤len then some (.eF v g sz (off+l.toNat) (h.toNat-l.toNat))else none:=by
 simp only[sN]
 cases iz f lo 0<;>cases iz f hi len<;>simp
@[simp] theorem aqc(f:fQ)(sz:Nat)(lo hi:Option X):sN f sz .eG lo hi=(iz f lo 0).bind fun l=>(iz f hi 0).bind fun h=>if l=0∧h=0 then some .eG else none:=by
 simp only[sN]
 cases iz f lo 0<;>cases iz f hi 0<;>simp
def agj{α:Type}(f:α→List D)(l:List α)(a b:Nat):((l.map f).drop a).take b=((l.drop a).take b).map f:=by rw[List.map_take,dJ]
@[simp] theorem aqb(f:fQ)(l:List Pos)(lo hi:Option X):sN f 5 (e7 l) lo hi=(iz f lo 0).bind fun a=>(iz f hi l.length).bind fun h=>if 0≤a∧a≤h∧h≤l.length then some (e7 ((l.drop a.toNat).take (h.toNat-a.toNat)))else none:=by
 unfold e7;rw[agk,List.length_map];simp only[agj]
@[irreducible] def cl{α:Type}(f:α→List D)(l:List α):List D:=(l.map f).flatten
theorem nK{α:Type}(f:α→List D)(l:List α):cl f l=(l.map f).flatten:=by rw[cl]
@[simp] theorem agl(sz:Nat)(H:U)(es:List (List D)):kY sz H (.sl sz es)=some (es.flatten,es.length):=by simp[kY]
@[simp] theorem Dq{α:Type}(sz:Nat)(f:α→List D)(H:U)(l:List α):kY sz H (.sl sz (l.map f))=some (cl f l,l.length):=by
 rw[agl,List.length_map,nK]
@[simp] theorem aqe(H:U)(l:List Int):kY 1 H (dI l)=some (cl f1 l,l.length):=by unfold dI;exact Dq ..
@[simp] theorem aqi(H:U)(l:List Pos):kY 5 H (e7 l)=some (cl Pos.cells l,l.length):=by unfold e7;exact Dq ..
@[simp] theorem aqh(H:U)(l:List eO):kY 2 H (fh l)=some (cl fS l,l.length):=by unfold fh;exact Dq ..
@[simp] theorem aqf{α:Type}(sz:Nat)(f:α→List D)(H:U)(l:List α):kY sz H (dN sz f l)=some (cl f l,l.length):=by
 cases l with
 | nil=>show some ([],0)=_;rw[nK];rfl
 | cons a l=>exact Dq sz f H (a::l)
@[simp] theorem aqj(sz:Nat)(H:U):kY sz H .eG=some ([],0):=rfl
@[simp] theorem aql(sz:Nat)(H:U)(v g off len:Nat):kY sz H (.eF v g sz off len)=(rowAt H v g).bind fun p=>if (off+len)*sz≤p.2.length then some ((p.2.drop (off*sz)).take (len*sz),len)else none:=by
 simp only[kY]
 cases rowAt H v g<;>simp
@[simp] theorem ajk(t sz bytes v g len:Nat)(y:D)(H:U)(vn:Nat):se t sz bytes (.eF v g sz 0 len) y H vn=(kY sz H y).bind fun q=>(rowAt H v g).bind fun r=>if r.1=t∧len*sz≤r.2.length∧(len+q.2)*bytes≤140737488355328∧len+q.2≤9223372036854775807 then some (.eF v (g+1) sz 0 (len+q.2),.obj v (.row t (g+1) (r.2.take (len*sz)++q.1)))else none:=by
 simp only[se]
 cases kY sz H y with
 | none=>rfl
 | some q=>cases rowAt H v g<;>simp
@[simp] theorem ajg(t sz bytes:Nat)(y:D)(H:U)(vn:Nat):se t sz bytes .eG y H vn=(kY sz H y).bind fun q=>if q.2=0 then some (.eG,.no)else if q.2*bytes≤140737488355328∧q.2≤9223372036854775807 then some (.eF vn 0 sz 0 q.2,.new (.row t 0 q.1))else none:=by
 simp only[se]
 cases kY sz H y<;>rfl
@[simp] theorem anB(t sz bytes:Nat)(z:List D)(k k':IntKind)(n m:Int)(v:Nat):z8 t sz bytes z (.val (.int k n)) (.val (.int k' m)) v=if 0≤n∧n≤m∧pa m 9223372036854775807∧pa ((bytes:Int)*m) 281474976710656 then some (.eF v 0 sz 0 n.toNat,.new (.row t 0 (List.replicate m.toNat z).flatten))else none:=rfl
@[simp] theorem amY(n:Int)(k:Nat):pa n k=(n≤(k:Int)):=rfl
@[simp] theorem aml(f:fQ):pG f []=some []:=rfl
def LO:D→Option Int
 | .val (.int .i64 n)=>some n
 | _=>none
@[simp] theorem amd(n:Int):LO (.i n)=some n:=rfl
@[simp] theorem amk(f:fQ)(x:X)(r:List X):pG f (x::r)=(LO (ev f x)).bind fun n=>(pG f r).bind fun l=>some (n::l):=by
 show(match ev f x,pG f r with | .val (.int .i64 n),some l=>some (n::l)|_,_=>none)=_
 unfold LO
 split
 ·rename_i h1 h2;rw[h1,h2];rfl
 ·rename_i h
  split
  ·rename_i n hn
   cases hl:pG f r with
   | none=>rfl
   | some l=>exact absurd hl (h _ _ hn)
  ·rfl
def Ml(isMax:Bool):List Int→Option D
 | [a,b]=>some (.i (if isMax then max a b else min a b))
 | [a,b,c]=>some (.i (if isMax then max (max a b) c else min (min a b) c))
 | _=>none
@[simp] theorem mm2(m:Bool)(a b:Int):Ml m [a,b]=some (.i (if m then max a b else min a b)):=rfl
@[simp] theorem anA(f:fQ)(m:Bool)(xs:List X):z7 f m xs=(pG f xs).bind (Ml m):=by
 unfold z7
 cases pG f xs with
 | none=>rfl
 | some l=>simp only[Option.bind_some];unfold Ml;split<;>simp_all
def GF(args:List D):D→Option (FuncId×List D)
 | .fn (.func k) first cap=>some (k,first++args++cap)
 | _=>none
@[simp] theorem aj2(args:List D)(k:FuncId)(first cap:List D):GF args (.fn (.func k) first cap)=some (k,first++args++cap):=rfl
@[simp] theorem Uf(f:fQ)(g:X)(args:List X):jA f (.callv g args)=GF (args.map (ev f)) (ev f g):=by
 show(match ev f g with | .fn (.func k) first cap=>some (k,first++args.map (ev f)++cap)|_=>none)=_
 unfold GF;split<;>simp_all
def L5(z:D)(ok:Bool):Option D→D
 | some d=>if ok then .tup [d,.b true]else d
 | none=>if ok then .tup [z,.b false]else z
@[simp] theorem anm(z:D)(ok:Bool)(d:D):L5 z ok (some d)=if ok then .tup [d,.b true]else d:=rfl
@[simp] theorem anl(z:D)(ok:Bool):L5 z ok none=if ok then .tup [z,.b false]else z:=rfl
@[simp] theorem ann(kk:KK)(z:D)(ok:Bool)(v:Nat)(k:D)(H:U):x5 kk z ok (.fE v) k H=(keyOf k).bind fun kv=>(kX H v).bind fun p=>if p.1=kk∧p.1.has kv=true then some (L5 z ok (lL p.2 kv))else none:=by
 unfold x5
 cases keyOf k with
 | none=>rfl
 | some kv=>
  cases h:kX H v with
  | none=>simp[h]
  | some p=>
   simp only[h,Option.bind_some]
   split
   ·cases lL p.2 kv<;>rfl
   ·rfl
@[simp] theorem anz(kk:KK)(v:Nat)(k x:D)(H:U):wu kk (.fE v) k x H=(keyOf k).bind fun kv=>(kX H v).bind fun p=>if p.1=kk∧p.1.has kv=true then some (.any,.obj v (.map p.1 (ke p.2 kv x)))else none:=by
 unfold wu
 cases keyOf k with
 | none=>rfl
 | some kv=>cases h:kX H v<;>simp[h]
def mapOf:Option Ob→Option (KK×List (Value×D))
 | some (.map kk es)=>some (kk,es)
 | _=>none
@[simp] theorem anx(kk:KK)(es:List (Value×D)):mapOf (some (.map kk es))=some (kk,es):=rfl
@[simp] theorem anw(H:U)(v:Nat):kX H v=mapOf H[v]? := by
 unfold kX mapOf;split<;>simp_all
@[simp] theorem amM(s:ByteArray):keyOf (.val (.string s))=some (.string s):=rfl
@[simp] theorem amK(b:Bool):keyOf (.b b)=some (.bool b):=rfl
@[simp] theorem amL(k:IntKind)(n:Int):keyOf (.val (.int k n))=some (.int k n):=rfl
@[simp] theorem am2(v:Nat)(H:U):oq .map (.fE v) H=(kX H v).bind fun p=>some (.i p.2.length):=by
 simp only[oq]
 cases kX H v<;>rfl
@[simp] theorem alh(ls:List nX)(neg:Bool)(x y:D):xh false ls neg x y=(nI ls [x] [y]).bind fun r=>some (.b (if neg then !r else r)):=by
 simp only[xh]
 cases nI ls [x] [y]<;>rfl
@[simp] theorem alg(ls:List nX)(neg:Bool)(x y:List D):xh true ls neg (.agg x) (.agg y)=(nI ls x y).bind fun r=>some (.b (if neg then !r else r)):=by
 simp only[xh]
 cases nI ls x y<;>rfl
@[simp] theorem aj8:nI [] [] []=some true:=rfl
@[simp] theorem aj7(l:nX)(ls:List nX)(x y:D)(xs ys:List D):nI (l::ls) (x::xs) (y::ys)=(sf l x y).bind fun a=>(nI ls xs ys).bind fun b=>some (a&&b):=by
 show(match sf l x y,nI ls xs ys with|some a,some b=>some (a&&b)|_,_=>none)=_
 cases sf l x y<;>cases nI ls xs ys<;>rfl
@[simp] theorem aj5(a b:Int):sf .int (.i a) (.i b)=some (decide (a=b)):=by simp[sf,BEq.beq]
@[simp] theorem aj4(a b:Bool):sf .bool (.b a) (.b b)=some (a == b):=rfl
attribute [simp] fG kill rU Ak fH iS uu sJ ru rr l6 IG lay Al.last lL ke o9 KK.has fu
@[simp] theorem aq0(v g sz off n:Nat):mq (.eF v g sz off n) = [(v,none)]:=rfl
@[simp] theorem aq2(sz:Nat)(es:List (List D)):mq (.sl sz es) = []:=rfl
@[simp] theorem aqX:mq .eG = []:=rfl
@[simp] theorem aqV(l:List Int):mq (dI l) = []:=by unfold dI;rfl
@[simp] theorem aqW(l:List eO):mq (fh l) = []:=by unfold fh;rfl
def XB(d:D)(P Q:Prop)(_:Tag (PProd.mk P Q)):Prop:=∃ x,d = .b x∧(x=true→P)∧(x=false→Q)
def X2(x:Bool)(P Q:Prop)(_:Tag (PProd.mk P Q)):Prop:=(x=true→P)∧(x=false→Q)
@[simp] theorem ahi(P Q:Prop):X2 true P Q .mk=P:=by simp[X2]
@[simp] theorem ahf(P Q:Prop):X2 false P Q .mk=Q:=by simp[X2]
@[simp] theorem ahg(x:Bool)(P Q:Prop):X2 (!x) P Q .mk=X2 x Q P .mk:=by cases x<;>simp[X2]
@[simp] theorem ahh(x y:Bool)(P Q:Prop):X2 (!x || !y) P Q .mk=X2 (x&&y) Q P .mk:=by cases x<;>cases y<;>simp[X2]
theorem X2.d{p:Prop}[Decidable p]{P Q:Prop}(h:p→P)(k:¬p→Q):X2 (decide p) P Q .mk:=⟨fun e=>h (of_decide_eq_true e),fun e=>k (of_decide_eq_false e)⟩
def X2.a{p q:Prop}[Decidable p][Decidable q]{P Q:Prop}(h:p→q→P)(k:¬(p∧q)→Q):X2 (decide p&&decide q) P Q .mk:=by
 rw[← ec];exact X2.d (fun e=>h e.1 e.2) k
def X2.o{p q:Prop}[Decidable p][Decidable q]{P Q:Prop}(h:p∨q→P)(k:¬(p∨q)→Q):X2 (decide p||decide q) P Q .mk:=by
 rw[← eu];exact X2.d h k
def X2.z{p:Prop}[Decidable p]{P Q:Prop}(h:¬p)(k:Q):X2 (decide p) P Q .mk:=X2.d (fun n=>absurd n h) (fun _=>k)
@[simp] theorem ahk(x:Bool)(a b:D)(P Q:Prop):XB (bif x then a else b) P Q .mk=X2 x (XB a P Q .mk) (XB b P Q .mk) .mk:=by
 cases x<;>simp
def X2.b{x:Bool}{P Q:Prop}(h:x=true→P)(k:x=false→Q):X2 x P Q .mk:=⟨h,k⟩
def Xg{p q:Prop}(b:q)(a:p:=by first|omega|assumption):p∧q:=⟨a,b⟩
@[simp] theorem ahj(x:Bool)(P Q:Prop):XB (.b x) P Q .mk=X2 x P Q .mk:=by
 cases x<;>simp[XB,X2]
@[simp high] theorem ahm(P Q:Prop):XB (.b true) P Q .mk=P:=by simp[XB]
@[simp high] theorem ahl(P Q:Prop):XB (.b false) P Q .mk=Q:=by simp[XB]
def XG(g:Option Bool)(P Q:Prop)(_:Tag (PProd.mk P Q)):Prop:=∃ x,g=some x∧(x=true→P)∧(x=false→Q)
@[simp] theorem ahC(x:Bool)(P Q:Prop):XG (some x) P Q .mk=X2 x P Q .mk:=by
 cases x<;>simp[XG,X2]
@[simp high] theorem ahF(P Q:Prop):XG (some true) P Q .mk=P:=by simp[XG]
@[simp high] theorem ahE(P Q:Prop):XG (some false) P Q .mk=Q:=by simp[XG]
@[simp] theorem ahD(x w:Bool)(a b:D)(P Q:Prop):XG (gB (bif x then a else b) w) P Q .mk=X2 x (XG (gB a w) P Q .mk) (XG (gB b w) P Q .mk) .mk:=by
 cases x<;>simp
def kp(s:St)(dst:Option Nat)(K:St→Prop):D×Dl→Prop:=fun p=>K { s with env:=put s.env dst p.1,H:=p.2.app s.H (Al.last s.H) }
def kt(s:St)(dst:Option Nat)(R:List Fp)(Q:Rc→St→Prop):D×Dl→Prop:=fun p=>Q ⟨R,iS s.H.length p.2⟩ { s with env:=put s.env dst p.1,H:=p.2.app s.H (Al.last s.H) }
section
variable(T:gy)
def fg(f:FuncId)(args:List D)(dst:Option Nat)(s:St)(K:St→Prop)(_:Tag (dst,s,K)):Prop:=
 (∃ fn,T.fn f=some fn∧fn.full=false∧Wf T f (args.map (eP (fun _=>none) s.H 40)) [] fun d Hn=>oA (after s dst args d Hn) K .mk) ∨
 (∃ fn,T.fn f=some fn∧fn.full=true∧Wf T f args s.H fun d H'=>K { s with env:=put s.env dst d,H:=H' })
def gQ(f:FuncId)(args:List D)(R:List Fp)(dst:Option Nat)(s:St)(Q:Rc→St→Prop)(_:Tag (dst,s,Q)):Prop:=
 ∃ fn d,T.fn f=some fn∧fn.full=false∧Wf T f (args.map (eP (fun _=>none) s.H 40)) [] (fun d' Hn=>d'=d∧Hn = [])∧(if fu args then closed d else flat d)=true∧Q ⟨R,[]⟩ { s with env:=put s.env dst d }
def vu(f:FuncId)(args:List D)(R:List Fp)(dst:Option Nat)(s:St)(Q:Rc→St→Prop)(t:Tag (dst,s,Q)):Prop:=
 gQ T f args R dst s Q t∨∃ fn d ob,T.fn f=some fn∧fn.full=false∧Wf T f (args.map (eP (fun _=>none) s.H 40)) [] (fun d' Hn=>d'=d∧Hn = [ob]) ∧
  (if fu args then lM d&&mO ob else nU d&&oi ob)=true∧Q ⟨R,[(s.H.length,none)]⟩ { s with env:=put s.env dst (jx s.H.length d),H:=s.H ++ [ob] }
def r9(f:FuncId)(args:List D)(R:List Fp)(dst:Option Nat)(s:St)(Q:Rc→St→Prop)(t:Tag (dst,s,Q)):Prop:=
 vu T f args R dst s Q t∨∃ fn d v,T.fn f=some fn∧fn.full=false∧(∀ u∈(args.map (gv s.H 40)).flatten,u=v)∧v∈(args.map (gv s.H 40)).flatten∧(rowsOf s.H v).isSome=true ∧
  fu (args.map (eP (fun _=>none) s.H 40))=true∧Wf T f (args.map (eP (fun _=>none) s.H 40)) [] (fun d' Hn=>d'=d∧Hn = [])∧closed d=true∧Q ⟨R,[(v,none)]⟩ { s with env:=put s.env dst d,H:=s.H.set v .dead }
def ym(v rf:Nat)(dst:Option Nat)(s:St)(K:St→Prop):gS:=fun o=>∃ jU,o.st.H[v]? = some (.gu rf jU .busy)∧K { s with env:=put s.env dst (.b !o.stop),H:=o.st.H.set v (.gu rf jU o.tS) }
def oU(v:Nat)(args:List D)(dst:Option Nat)(s:St)(K:St→Prop)(_:Tag (dst,s,K)):Prop:=
 ∃ rf env0 Rd,s.H[v]? = some (.gu rf env0 .ready)∧T.round rf=some Rd∧args.length=Rd.params.length ∧
  Wc T Rd.a { env:=re Rd.params args env0,H:=s.H,fW:=true } fun o=>∃ s1 ka,o = .norm s1∧s1.H[v]? = some (.gu rf ka .ready)∧Wc T Rd.b { s1 with H:=s1.H.set v (.gu rf ka .busy) } (ym v rf dst s K)
def ta(d:D)(args:List D)(dst:Option Nat)(s:St)(K:St→Prop)(t:Tag (dst,s,K)):Prop:=
 match d with
 | .ic v=>oU T v args dst s K t
 | d=>oA (GF args d) (fun p=>fg T p.1 p.2 dst s K t) .mk
def r8(x:D)(dst:Option Nat)(s:St)(K:St→Prop)(_:Tag (dst,s,K)):Prop:=
 ∃ v m since seen kk es,x = .ptr v 0 0∧s.H[v]? = some (.jJ (.fE m) since seen)∧s.H[m]? = some (.map kk es)∧es.length=since ∧
  ((∀ i,i<es.length→i∈seen)→K { s with env:=put s.env dst (.tup [.b false]) }) ∧
  (∀ i k d,es[i]? = some (k,d)→i ∉ seen→K { s with env:=put s.env dst (.tup [.b true,.val k,d]),H:=s.H.set v (.jJ (.fE m) since (seen ++ [i])) })
def gZ(op:gP)(dst:Option Nat)(s:St)(K:St→Prop):Prop:=
 match op with
 | .call f args=>fg T f (args.map (ev s.env.get)) dst s K .mk
 | .callN f args=>fg T f (args.map (ev s.env.get)) dst s K .mk
 | .callv f args=>ta T (ev s.env.get f) (args.map (ev s.env.get)) dst s K .mk
 | .nilS a b=>oA (l6 s.env.get s.H s.H.length (.nilS a b)) (kp s dst K) .mk
 | .capE a=>oA (l6 s.env.get s.H s.H.length (.capE a)) (kp s dst K) .mk
 | .appZ a b c d e f=>oA (l6 s.env.get s.H s.H.length (.appZ a b c d e f)) (kp s dst K) .mk
 | .clr a b c=>oA (l6 s.env.get s.H s.H.length (.clr a b c)) (kp s dst K) .mk
 | .rangeS a=>oA (l6 s.env.get s.H s.H.length (.rangeS a)) (kp s dst K) .mk
 | .nextS a=>oA (l6 s.env.get s.H s.H.length (.nextS a)) (kp s dst K) .mk
 | .rangeM a=>oA (l6 s.env.get s.H s.H.length (.rangeM a)) (kp s dst K) .mk
 | .entry a=>oA (l6 s.env.get s.H s.H.length (.entry a)) (kp s dst K) .mk
 | .nextM a=>r8 (ev s.env.get a) dst s K .mk
 | op=>oA (fG s.env.get s.H s.H.length op) (kp s dst K) .mk
def jb(op:gP)(dst:Option Nat)(s:St)(Q:Rc→St→Prop):Prop:=
 match op with
 | .call f args=>gQ T f (args.map (ev s.env.get)) (fH s.env.get s.H (.call f args)) dst s Q .mk
 | .callN f args=>r9 T f (args.map (ev s.env.get)) (fH s.env.get s.H (.callN f args)) dst s Q .mk
 | .callv f args=>oA (jA s.env.get (.callv f args)) (fun p=>gQ T p.1 p.2 (fH s.env.get s.H (.callv f args)) dst s Q .mk) .mk
 | op=>oA (fG s.env.get s.H s.H.length op) (kt s dst (fH s.env.get s.H op) Q) .mk
def XO:List eT→St→(St→Prop)→Prop
 | [],s,K=>K s
 | e::r,s,K=>XG (guardOf s.env.get e.guard) (gZ T e.op e.dst s fun s'=>XO r s' K) (XO r { s with env:=put s.env e.dst (.val undef) } K) .mk
def XT:List eT→St→(List Rc→St→Prop)→Prop
 | [],s,K=>K [] s
 | e::r,s,K=>XG (guardOf s.env.get e.guard) (jb T e.op e.dst s fun rc s'=>XT r s' fun rs s2=>K (rc::rs) s2) (XT r { s with env:=put s.env e.dst (.val undef) } fun rs s2=>K (⟨[],[]⟩::rs) s2) .mk
end
section
variable{T:gy}
def Mr{α:Type}{x:Option α}{P Q:α→Prop}{t:Tag P}{u:Tag Q}(h:oA x P t)(hi:∀ a,P a→Q a):oA x Q u:=by
 obtain⟨a,h1,h2⟩:=h;exact⟨a,h1,hi a h2⟩
theorem fg.mono{f:FuncId}{args:List D}{dst:Option Nat}{s:St}{K K':St→Prop}{t:Tag (dst,s,K)}{u:Tag (dst,s,K')}(h:fg T f args dst s K t)(hi:∀ s,K s→K' s):fg T f args dst s K' u:=by
 rcases h with⟨fn,hf,hp,h⟩|⟨fn,hf,hp,h⟩
 ·exact .inl ⟨fn,hf,hp,Wf.mono h fun d Hn h=>Mr h hi⟩
 ·exact .inr ⟨fn,hf,hp,Wf.mono h fun d H h=>hi _ h⟩
theorem oU.mono{v:Nat}{args:List D}{dst:Option Nat}{s:St}{K K':St→Prop}{t:Tag (dst,s,K)}{u:Tag (dst,s,K')}(h:oU T v args dst s K t)(hi:∀ s,K s→K' s):oU T v args dst s K' u:=by
 obtain⟨rf,env0,Rd,hv,hR,hl,h⟩:=h
 exact⟨rf,env0,Rd,hv,hR,hl,h.mono fun o ⟨s1,ka,he,h1,h2⟩=>⟨s1,ka,he,h1,h2.mono fun o ⟨jU,h3,h4⟩=>⟨jU,h3,hi _ h4⟩⟩⟩
theorem ta.mono{d:D}{args:List D}{dst:Option Nat}{s:St}{K K':St→Prop}{t:Tag (dst,s,K)}{u:Tag (dst,s,K')}(h:ta T d args dst s K t)(hi:∀ s,K s→K' s):ta T d args dst s K' u:=by
 unfold ta at h ⊢
 split at h
 ·exact oU.mono h hi
 ·exact Mr h fun p hp=>fg.mono hp hi
def r8.mono{x:D}{dst:Option Nat}{s:St}{K K':St→Prop}{t:Tag (dst,s,K)}{u:Tag (dst,s,K')}(h:r8 x dst s K t)(hi:∀ s,K s→K' s):r8 x dst s K' u:=by
 obtain⟨v,m,since,seen,kk,es,h1,h2,h3,h4,h5,h6⟩:=h
 exact⟨v,m,since,seen,kk,es,h1,h2,h3,h4,fun h=>hi _ (h5 h),fun i k d e1 e2=>hi _ (h6 i k d e1 e2)⟩
theorem gZ.mono{op:gP}{dst:Option Nat}{s:St}{K K':St→Prop}(h:gZ T op dst s K)(hi:∀ s,K s→K' s):gZ T op dst s K':=by
 unfold gZ at h ⊢
 split at h<;>first
  | exact fg.mono h hi
  | exact ta.mono h hi
  | exact r8.mono h hi
  | exact Mr h fun p hp=>hi _ hp
theorem XO.mono:∀ {l:List eT} {s:St} {K K':St→Prop},XO T l s K→(∀ s,K s→K' s)→XO T l s K'
 | [],s,K,K',h,hi=>hi s h
 | e::r,s,K,K',h,hi=>by
  obtain⟨x,hg,ht,hf⟩:=h
  exact⟨x,hg,fun e=>gZ.mono (ht e) fun s' h=>XO.mono h hi,fun e=>XO.mono (hf e) hi⟩
def fg.wo{f:FuncId}{args:List D}{s:St}{K:St→Prop}{e:eT}{r:List eT}(hg:guardOf s.env.get e.guard=some true)(hc:jA s.env.get e.op=some (f,args))(h:fg T f args e.dst s (fun s'=>Wo T r s' K) .mk):Wo T (e::r) s K:=by
 rcases h with⟨fn,hf,hp,h⟩|⟨fn,hf,hp,h⟩
 ·refine Ev.Bk hg hc hf hp h (fun d Hn hd=>?_) fun d Hn s' hd fZ=>?_
  ·obtain⟨d',H',he,s',hs,hk⟩:=hd
   cases he;rw[hs];rfl
  ·obtain⟨d',H',he,s2,hs,hk⟩:=hd
   cases he
   rw[hs]at fZ;cases fZ
   exact hk
 ·exact Ev.Bj hg hc hf hp h fun d H' hd=>by
   obtain⟨d',H2,he,hk⟩:=hd
   cases he;exact hk
theorem XO.tY{l2:List eT}{K:St→Prop}:∀ {l:List eT} {s:St},XO T l s (fun s'=>Wo T l2 s' K)→Wo T (l++l2) s K
 | [],s,h=>h
 | e::r,s,h=>by
  obtain⟨x,hg,ht,hf⟩:=h
  cases x with
  | false=>exact Wo.off hg (XO.tY (hf rfl))
  | true=>
   have h:=ht rfl
   have plain:oA (fG s.env.get s.H s.H.length e.op) (kp s e.dst fun s'=>XO T r s' fun s'=>Wo T l2 s' K) .mk→Wo T (e::r++l2) s K:=fun⟨⟨d,δ⟩,hd,hk⟩=>Wo.op hg hd (XO.tY hk)
   have sp:oA (l6 s.env.get s.H s.H.length e.op) (kp s e.dst fun s'=>XO T r s' fun s'=>Wo T l2 s' K) .mk→Wo T (e::r++l2) s K:=fun⟨⟨d,δ⟩,hd,hk⟩=>Wo.yy hg hd (XO.tY hk)
   have call:∀ f args,jA s.env.get e.op=some (f,args)→fg T f args e.dst s (fun s'=>XO T r s' fun s'=>Wo T l2 s' K) .mk→Wo T (e::r++l2) s K:=fun f args hc hx=>by
    refine fg.wo hg hc ?_
    rcases hx with⟨fn,hf,hp,h⟩|⟨fn,hf,hp,h⟩
    ·exact .inl ⟨fn,hf,hp,Wf.mono h fun d Hn ⟨s',h1,h2⟩=>⟨s',h1,XO.tY h2⟩⟩
    ·exact .inr ⟨fn,hf,hp,Wf.mono h fun d Hn h1=>XO.tY h1⟩
   unfold gZ at h
   split at h
   case h_1 f args he=>exact call _ _ (by rw[he];rfl) h
   case h_2 f args he=>exact call _ _ (by rw[he];rfl) h
   case h_3 f args he=>
    unfold ta at h
    split at h
    ·rename_i v hv
     obtain⟨rf,env0,Rd,oI,hR,hl,h⟩:=h
     have hy:yieldOf s.env.get e.op=some (v,args.map (ev s.env.get)):=by rw[he];simp only[yieldOf,hv]
     refine Ev.GD hg hy oI hR hl h (fun o ⟨o',e1,s1,ka,e2,h1,h2⟩=>?_) (Rb:=PO (ym v rf e.dst s fun s'=>XO T r s' fun s'=>Wo T l2 s' K)) (fun s1 ka ⟨o',e1,s2,jU,e2,h1,h2⟩ h3=>?_) (fun o ⟨o',e1,jU,h1,h2⟩=>?_) fun o jU ⟨o',e1,alf,h1,h2⟩ h3=>?_
     ·cases e1;subst e2;exact⟨rfl,ka,h1⟩
     ·cases e1;cases e2
      rw[h1]at h3;cases h3;exact h2
     ·cases e1;exact⟨jU,h1⟩
     ·cases e1
      rw[h1]at h3;cases h3
      exact XO.tY h2
    ·rename_i hn
     obtain⟨p,hp,h⟩:=h
     exact call p.1 p.2 (by rw[he,Uf];exact hp) h
   case h_12 a he=>
    obtain⟨v,m,since,seen,kk,es,h1,h2,h3,h4,h5,h6⟩:=h
    exact Ev.next hg he h1 h2 h3 h4 (fun k=>XO.tY (h5 k)) fun i k d e1 e2=>XO.tY (h6 i k d e1 e2)
   case h_13=>exact plain h
   all_goals (rename_i he;exact sp (by rw[he];exact h))
def XO.wo{l:List eT}{s:St}{K:St→Prop}(h:XO T l s K):Wo T l s K:=by
 have:=XO.tY (l2:=[]) (K:=K) (XO.mono h fun s' k=>Wo.nil k)
 rwa [aw]at this
theorem XT.wt:∀ {l:List eT} {s:St} {K:List Rc→St→Prop},XT T l s K→Wt T l s K
 | [],s,K,h=>Wt.nil h
 | e::r,s,K,h=>by
  obtain⟨x,hg,ht,hf⟩:=h
  cases x with
  | false=>exact Wt.off hg (XT.wt (hf rfl))
  | true=>
   have h:=ht rfl
   have call:∀ f args,jA s.env.get e.op=some (f,args)→gQ T f args (fH s.env.get s.H e.op) e.dst s (fun rc s'=>XT T r s' fun rs s2=>K (rc::rs) s2) .mk→Wt T (e::r) s K:=fun f args hc ⟨fn,d,hf,hp,hw,fM,hk⟩=>
    Ev.Dw hg hc hf hp hw (fun d' Hn ⟨d2,H2,he,hd⟩=>by cases he;exact hd) fM (XT.wt hk) fun rs s' ⟨SJ,s2,he,k⟩=>by cases he;exact⟨_,_,rfl,k⟩
   unfold jb at h
   split at h
   case h_1 f args he=>exact call _ _ (by rw[he];rfl) (by rw[he];exact h)
   case h_2 f args he=>
    rcases h with(h|⟨fn,d,ob,hf,hp,hw,fM,hk⟩)|⟨fn,d,v,hf,hp,hS,hv,gq,fM,hw,hr,hk⟩
    ·exact call _ _ (by rw[he];rfl) (by rw[he];exact h)
    ·exact Ev.Dx hg he rfl hf hp hw (fun d' Hn ⟨d2,H2,he,hd⟩=>by cases he;exact hd) fM (XT.wt hk) fun rs s' ⟨SJ,s2,e2,k⟩=>by cases e2;rw[he];exact⟨_,_,rfl,k⟩
    ·exact Ev.Dy hg he rfl hf hp hS hv gq fM hw (fun d' Hn ⟨d2,H2,he,hd⟩=>by cases he;exact hd) hr (XT.wt hk) fun rs s' ⟨SJ,s2,e2,k⟩=>by cases e2;rw[he];exact⟨_,_,rfl,k⟩
   case h_3 f args he=>obtain⟨p,hp,h⟩:=h;exact call p.1 p.2 (by rw[he];exact hp) (by rw[he];exact h)
   case h_4=>obtain⟨⟨d,δ⟩,hd,hk⟩:=h;exact Wt.op hg hd (XT.wt hk)
end
def jS:IR→IR
 | .seq a b=>.seq (jS a) (jS b)
 | .cond c a b=>.cond c (jS a) (jS b)
 | .block id live a=>.block id live (jS a)
 | .loop live a=>.loop live (jS a)
 | .fz _ a=>jS a
 | .sv _ a b=>.ops (a++b)
 | c=>c
def q6:IR→Bool
 | .seq a b=>q6 a&&q6 b
 | .cond _ a b=>q6 a&&q6 b
 | .block _ _ a=>q6 a
 | .loop _ a=>q6 a
 | .fz _ _=>false
 | .sv _ _ _=>false
 | _=>true
theorem mE:∀ {c:IR},q6 c=true→jS c=c
 | .seq a b,h=>by simp only[q6,ah]at h;rw[jS,mE h.1,mE h.2]
 | .cond _ a b,h=>by simp only[q6,ah]at h;rw[jS,mE h.1,mE h.2]
 | .block _ _ a,h=>by rw[jS,mE (c:=a) h]
 | .loop _ a,h=>by rw[jS,mE (c:=a) h]
 | .fz _ _,h=>by cases h
 | .sv _ _ _,h=>by cases h
 | .skip,_ | .ops _,_ | .kr _ _,_ | .lF _ _ _,_ | .l5 _ _ _,_ | .exit _,_ | .ret,_ | .bad,_=>rfl
def ku(k:Nat):List eT→Bool
 | { dst:=some j,.. }::_=>decide (j=k)
 | _=>false
def gL(k:Nat)(S:List Nat):IR→IR
 | .ops l=>bif ku k l then .fz S (.ops l)else .ops l
 | .kr p l=>bif ku k l then .fz S (.kr p l)else .kr p l
 | .lF p l e=>bif ku k l then .fz S (.lF p l e)else .lF p l e
 | .seq a b=>.seq (gL k S a) (gL k S b)
 | .cond c a b=>.cond c (gL k S a) (gL k S b)
 | .block id live a=>.block id live (gL k S a)
 | .loop live a=>.loop live (gL k S a)
 | .fz S' a=>.fz S' (gL k S a)
 | c=>c
theorem wE(k:Nat)(S:List Nat):∀ c:IR,jS (gL k S c)=jS c
 | .ops l=>by unfold gL;cases ku k l<;>rfl
 | .kr p l=>by unfold gL;cases ku k l<;>rfl
 | .lF p l e=>by unfold gL;cases ku k l<;>rfl
 | .seq a b=>by simp only[gL,jS,wE k S a,wE k S b]
 | .cond c a b=>by simp only[gL,jS,wE k S a,wE k S b]
 | .block id live a=>by simp only[gL,jS,wE k S a]
 | .loop live a=>by simp only[gL,jS,wE k S a]
 | .fz S' a=>by simp only[gL,jS,wE k S a]
 | .skip | .l5 _ _ _ | .exit _ | .ret | .bad | .sv _ _ _=>rfl
def lD(k:Nat):List eT→List eT
 | []=>[]
 | e::r=>bif ku k [e]then []else e::lD k r
def lH(k:Nat):List eT→List eT
 | []=>[]
 | e::r=>bif ku k [e]then e::r else lH k r
def lS(k:Nat):List eT→Bool
 | []=>false
 | e::r=>ku k [e]||lS k r
theorem N8(k:Nat):∀ l:List eT,lD k l++lH k l=l
 | []=>rfl
 | e::r=>by unfold lD lH;cases ku k [e]<;>simp[N8 k r]
def jg(k:Nat)(S:List Nat):IR→IR
 | .ops l=>bif lS k l then .sv S (lD k l) (lH k l)else .ops l
 | .seq a b=>.seq (jg k S a) (jg k S b)
 | .cond c a b=>.cond c (jg k S a) (jg k S b)
 | .block id live a=>.block id live (jg k S a)
 | .loop live a=>.loop live (jg k S a)
 | .fz S' a=>.fz S' (jg k S a)
 | c=>c
theorem wF(k:Nat)(S:List Nat):∀ c:IR,jS (jg k S c)=jS c
 | .ops l=>by unfold jg;cases lS k l<;>simp[jS,N8]
 | .seq a b=>by simp only[jg,jS,wF k S a,wF k S b]
 | .cond c a b=>by simp only[jg,jS,wF k S a,wF k S b]
 | .block id live a=>by simp only[jg,jS,wF k S a]
 | .loop live a=>by simp only[jg,jS,wF k S a]
 | .fz S' a=>by simp only[jg,jS,wF k S a]
 | .skip | .l5 _ _ _ | .exit _ | .ret | .bad | .sv _ _ _ | .kr _ _ | .lF _ _ _=>rfl
def eN(T:gy)(live:List Nat)(a:IR)(s:St)(K:gS)(_:Tag (live,a,s,K)):Prop:=Wc T (.loop live (jS a)) s K
def rp(T:gy)(rf:Nat)(live:List Nat)(x:X)(s:St)(K:gS)(_:Tag (live,x,s,K)):Prop:=Wc T (.l5 rf live x) s K
@[irreducible] def tL(m S:List Nat):Bool:=m.all fun v => !S.contains v
theorem CI(m S:List Nat):tL m S=m.all fun v => !S.contains v:=by unfold tL;rfl
@[simp] theorem Rw(S:List Nat):tL [] S=true:=by rw[CI];rfl
@[simp] theorem anv(v:Nat)(m S:List Nat):tL (v::m) S=(!decide (v∈S)&&tL m S):=by rw[CI,CI,List.all_cons,dz]
def JE:D→List Nat
 | .agg cs=>(cs.map (gW 0)).flatten
 | _=>[]
@[simp] theorem ajc(cs:List D):JE (.agg cs)=(cs.map (gW 0)).flatten:=rfl
def oC(env:Env):List Nat→List Nat
 | []=>[]
 | v::r=>if v<1000 then v::oC env r else if v<2000 then gW 0 (env.get (v-1000))++oC env r else JE (env.get (v-2000))++oC env r
@[simp] theorem alV(env:Env):oC env [] = []:=rfl
@[simp] theorem alU(env:Env)(v:Nat)(r:List Nat):oC env (v::r)=if v<1000 then v::oC env r else if v<2000 then gW 0 (env.get (v-1000))++oC env r else JE (env.get (v-2000))++oC env r:=rfl
def XC(T:gy):IR→St→gS→Prop
 | .skip,s,K=>K (.norm s)
 | .ops l,s,K=>XO T l s fun s'=>K (.norm s')
 | .kr iH l,s,K=>XT T l s fun rs s'=>sJ iH rs=true∧K (.norm s')
 | .lF iH l es,s,K=>XT T l s fun rs s'=>sJ iH rs=true∧XO T es s' fun s'=>K (.norm s')
 | .seq a b,s,K=>XC T a s fun o=>match o with
  | .norm s'=>XC T b s' K
  | o=>K o
 | .cond c a b,s,K=>XB (ev s.env.get c) (XC T a s K) (XC T b s K) .mk
 | .block id live a,s,K=>XC T a s fun o=>K (mc id s.H.length live o)
 | .loop live a,s,K=>eN T live a s K .mk
 | .l5 rf live x,s,K=>rp T rf live x s K .mk
 | .exit id,s,K=>K (.exit id s)
 | .ret,s,K=>K (.ret s)
 | .bad,_,_=>False
 | .fz S a,s,K=>tL s.marks (oC s.env S)=true∧XC T a (kb (oC s.env S) s) K
 | .sv S a b,s,K=>XO T a s fun s'=>tL s'.marks (oC s'.env S)=true∧XO T b (kb (oC s'.env S) s') fun s'=>K (.norm s')
def IL(T:gy)(b:IR)(K:gS):gS:=fun o=>match o with
 | .norm s'=>XC T b s' K
 | o=>K o
def uo(id n:Nat)(live:List Nat)(K:gS):gS:=fun o=>K (mc id n live o)
section
variable{T:gy}
theorem Wc.kb{c:IR}{s:St}{K:gS}(S:List Nat)(hm:tL s.marks S=true)(h:Wc T c (kb S s) K):Wc T c s K:=Ev.BK S (by rwa [CI]at hm) h
theorem XC.wc:∀ {c:IR} {s:St} {K:gS},XC T c s K→Wc T (jS c) s K
 | .skip,s,K,h=>Wc.skip h
 | .ops l,s,K,h=>Wc.ops (XO.wo h)
 | .kr iH l,s,K,h=>Wc.kr (XT.wt h)
 | .lF iH l es,s,K,h=>Wc.lF (Ev.mono (XT.wt h) fun _ ⟨rs,s',q,k⟩=>⟨rs,s',q,k.1,XO.wo k.2⟩)
 | .seq a b,s,K,h=>Wc.seq ((XC.wc (c:=a) h).mono fun o ho=>by
  cases o with
  | norm s'=>exact XC.wc (c:=b) ho
  | exit=>exact ho
  | ret=>exact ho)
 | .cond _ _ _,_,_,h=>by
  obtain⟨x,hx,ht,hf⟩:=h
  exact Wc.cond x hx (fun e=>XC.wc (ht e)) fun e=>XC.wc (hf e)
 | .block _ _ _,_,_,h=>Wc.block (XC.wc h)
 | .loop live a,s,K,h=>h
 | .l5 rf live x,s,K,h=>h
 | .exit id,s,K,h=>Wc.exit h
 | .ret,s,K,h=>Wc.ret h
 | .bad,s,K,h=>h.elim
 | .fz S a,s,K,h=>Wc.kb (oC s.env S) h.1 (XC.wc (c:=a) h.2)
 | .sv S a b,s,K,h=>Wc.ops (XO.tY (XO.mono h fun s' k=>Ev.kb (oC s'.env S) (by have:=k.1;rwa [CI]at this) (XO.wo k.2)))
def rT(ds:List D):D:=match ds with
 | [d]=>d
 | ds=>.tup ds
@[simp] theorem api(d:D):rT [d]=d:=rfl
@[simp] theorem apj(d e:D):rT [d,e] = .tup [d,e]:=rfl
@[simp] theorem apk(d e f:D):rT [d,e,f] = .tup [d,e,f]:=rfl
@[simp] theorem aph:rT [] = .tup []:=rfl
def vL(rs:List s8)(own n:Nat)(K:D→U→Prop):gS:=fun o=>match o with
 | .norm s | .ret s=>oA (kill s.marks s.H) (fun H=>oA (rU { s with H:=H } rs) (fun ds=>K (leave own n H (rT ds)).1 (leave own n H (rT ds)).2) .mk) .mk
 | .exit _ _=>False
def Wf.xz(own:Nat){f:FuncId}{args:List D}{H:U}{fn:eI}{K:D→U→Prop}(c:IR)(hf:T.fn f=some fn)(hl:args.length≤fn.ntmps)(hc:jS c=fn.body)
  (h:XC T c { env:=qY args,H:=H } (vL fn.results own H.length K)):Wf T f args H K:=by
 have key:∀ s:St,(oA (kill s.marks s.H) (fun H'=>oA (rU { s with H:=H' } fn.results) (fun ds=>K (leave own H.length H' (rT ds)).1 (leave own H.length H' (rT ds)).2) .mk) .mk)→∃ d H',(match kill s.marks s.H with
  | some H1=>match results fn { s with H:=H1 }with
   | some d=>some (leave own H.length H1 d)
   | none=>none
  | none=>none)=some (d,H')∧K d H':=by
  rintro s ⟨H1,h1,ds,h2,hk⟩
  rw[h1]
  refine⟨_,_,?_,hk⟩
  unfold AL.results
  dsimp only
  rw[h2]
  cases ds with
  | nil=>rfl
  | cons a l=>cases l<;>rfl
 refine Wf.call own hf hl (hc▸(XC.wc h).mono fun o ho=>?_)
 cases o with
 | norm s=>exact key s ho
 | ret s=>exact key s ho
 | exit=>exact ho.elim
def Wf.xo(own:Nat){f:FuncId}{args:List D}{H:U}{fn:eI}{K:D→U→Prop}(hf:T.fn f=some fn)(hl:args.length≤fn.ntmps)
  (h:XC T fn.body { env:=qY args,H:=H } (vL fn.results own H.length K)) (hz:q6 fn.body=true:=by rfl):Wf T f args H K:=Wf.xz own fn.body hf hl (mE hz) h
def Wf.x{f:FuncId}{args:List D}{H:U}{fn:eI}{K:D→U→Prop}(hf:T.fn f=some fn)(hl:args.length≤fn.ntmps)
  (h:XC T fn.body { env:=qY args,H:=H } (vL fn.results fn.own H.length K)) (hz:q6 fn.body=true:=by rfl):Wf T f args H K:=Wf.xo fn.own hf hl h hz
def fg.is{f:FuncId}{args:List D}{dst:Option Nat}{s:St}{K:St→Prop}{fn:eI}{K0:D→U→Prop}(hf:T.fn f=some fn)(hp:fn.full=false)(h:Wf T f (args.map (eP (fun _=>none) s.H 40)) [] K0)
  (k:∀ d Hn,K0 d Hn→oA (after s dst args d Hn) K .mk):fg T f args dst s K .mk:=.inl ⟨fn,hf,hp,Wf.mono h k⟩
def fg.lK{f:FuncId}{args:List D}{dst:Option Nat}{s:St}{K:St→Prop}{fn:eI}{K0:D→U→Prop}(hf:T.fn f=some fn)(hp:fn.full=true)(h:Wf T f args s.H K0)
  (k:∀ d H',K0 d H'→K { s with env:=put s.env dst d,H:=H' }):fg T f args dst s K .mk:=.inr ⟨fn,hf,hp,Wf.mono h k⟩
def fg.c{f:FuncId}{args:List D}{dst:Option Nat}{s:St}{K:St→Prop}{fn:eI}{x:D}(hf:T.fn f=some fn)(hp:fn.full=false)(h:Wf T f args [] fun d H'=>d=x∧H' = [])
  (hc:fu args=true) (hx:closed x=true) (k:K { s with env:=put s.env dst x }):fg T f args dst s K .mk:=by
 refine fg.is hf hp (K0:=fun d H'=>d=x∧H' = []) ?_ ?_
 ·have e0:args.map (eP (fun _=>none) s.H 40)=args:=by
   conv=>rhs;rw[← aQ args]
   exact aj fun d hd=>mD (lE hc d hd)
  rw[e0];exact h
 ·rintro d Hn ⟨rfl,rfl⟩
  obtain⟨k1,k2⟩:=GR (H:=s.H) hx
  refine⟨{ s with env:=put s.env dst d },?_,k⟩
  unfold after
  rw[if_pos hc,k1,k2]
  simp
def fg.r{f:FuncId}{args nZ:List D}{dst:Option Nat}{s:St}{K:St→Prop}{fn:eI}{x:D}(hf:T.fn f=some fn)(hp:fn.full=false)(h:Wf T f nZ [] fun d H'=>d=x∧H' = [])
  (hs:args.map (eP (fun _=>none) s.H 40)=nZ) (hx:flat x=true) (lJ:closed x=true) (k:K { s with env:=put s.env dst x }):fg T f args dst s K .mk:=by
 refine fg.is hf hp (K0:=fun d H'=>d=x∧H' = []) (by rw[hs];exact h) ?_
 rintro d Hn ⟨rfl,rfl⟩
 obtain⟨k1,k2⟩:=GR (H:=s.H) lJ
 refine⟨{ s with env:=put s.env dst d },?_,k⟩
 have:nU d=true:=(Pk (H:=s.H) hx).1
 unfold after
 rw[this,k1,k2]
 simp
def gQ.c{f:FuncId}{args:List D}{R:List Fp}{dst:Option Nat}{s:St}{Q:Rc→St→Prop}{fn:eI}{x:D}(hf:T.fn f=some fn)(hp:fn.full=false)(h:Wf T f args [] fun d H'=>d=x∧H' = [])
  (hc:fu args=true) (hx:closed x=true) (k:Q ⟨R,[]⟩ { s with env:=put s.env dst x }):gQ T f args R dst s Q .mk:=by
 refine⟨fn,x,hf,hp,?_,by rw[if_pos hc];exact hx,k⟩
 have e0:args.map (eP (fun _=>none) s.H 40)=args:=by
  conv=>rhs;rw[← aQ args]
  exact aj fun d hd=>mD (lE hc d hd)
 rw[e0];exact h
def gQ.r{f:FuncId}{args nZ:List D}{R:List Fp}{dst:Option Nat}{s:St}{Q:Rc→St→Prop}{fn:eI}{x:D}(hf:T.fn f=some fn)(hp:fn.full=false)(h:Wf T f nZ [] fun d H'=>d=x∧H' = [])
  (hs:args.map (eP (fun _=>none) s.H 40)=nZ) (hx:flat x=true) (lJ:closed x=true) (k:Q ⟨R,[]⟩ { s with env:=put s.env dst x }):gQ T f args R dst s Q .mk:=
 ⟨fn,x,hf,hp,by rw[hs];exact h,by split<;>assumption,k⟩
variable{s:St}{K:gS}{a b:IR}{l:List eT}{op:gP}{k j:Nat}
@[simp ↓] theorem ahz:XC T .skip s K=K (.norm s):=(rfl)
@[simp ↓] theorem ahv:XC T (.ops l) s K=XO T l s fun s'=>K (.norm s'):=(rfl)
@[simp ↓] theorem ahp{iH:List (Nat×Nat)}:XC T (.kr iH l) s K=XT T l s fun rs s'=>sJ iH rs=true∧K (.norm s'):=(rfl)
@[simp ↓] theorem ahq{iH:List (Nat×Nat)}{es:List eT}:XC T (.lF iH l es) s K=XT T l s fun rs s'=>sJ iH rs=true∧XO T es s' fun s'=>K (.norm s'):=(rfl)
@[simp ↓] theorem ahy:XC T (.seq a b) s K=XC T a s (IL T b K):=(rfl)
@[simp ↓] theorem aho{c:X}:XC T (.cond c a b) s K=XB (ev s.env.get c) (XC T a s K) (XC T b s K) .mk:=(rfl)
@[simp ↓] theorem ahn{id:Nat}{live:List Nat}:XC T (.block id live a) s K=XC T a s (uo id s.H.length live K):=(rfl)
@[simp ↓] theorem ahu{live:List Nat}:XC T (.loop live a) s K=eN T live a s K .mk:=(rfl)
@[simp ↓] theorem ahw{rf:Nat}{live:List Nat}{x:X}:XC T (.l5 rf live x) s K=rp T rf live x s K .mk:=(rfl)
@[simp ↓] theorem ahs{S:List Nat}:XC T (.fz S a) s K=(tL s.marks (oC s.env S)=true∧XC T a (kb (oC s.env S) s) K):=(rfl)
@[simp ↓] theorem aht{S:List Nat}{x y:List eT}:XC T (.sv S x y) s K=XO T x s fun s'=>tL s'.marks (oC s'.env S)=true∧XO T y (kb (oC s'.env S) s') fun s'=>K (.norm s'):=(rfl)
@[simp ↓] theorem ahr{id:Nat}:XC T (.exit id) s K=K (.exit id s):=(rfl)
@[simp ↓] theorem ahx:XC T .ret s K=K (.ret s):=(rfl)
@[simp ↓] theorem anK:IL T b K (.norm s)=XC T b s K:=(rfl)
@[simp ↓] theorem anJ{id:Nat}:IL T b K (.exit id s)=K (.exit id s):=(rfl)
@[simp ↓] theorem anL:IL T b K (.ret s)=K (.ret s):=(rfl)
@[simp ↓] theorem Bg{id n:Nat}{live:List Nat}:uo id n live K (.norm s)=K (.norm (cut n live s)):=(rfl)
@[simp ↓] theorem ajN{id n:Nat}{live:List Nat}:uo id n live K (.ret s)=K (.ret s):=(rfl)
@[simp ↓] theorem JH{id n:Nat}{live:List Nat}:uo id n live K (.exit id s)=K (.norm (cut n live s)):=by simp[uo,mc]
@[simp ↓] theorem ajM{id wh n:Nat}{live:List Nat}(h:wh≠id):uo id n live K (.exit wh s)=K (.exit wh s):=by simp[uo,mc,h]
@[simp ↓] theorem alx{rs:List s8}{own n:Nat}{K:D→U→Prop}:vL rs own n K (.ret s)=oA (kill s.marks s.H) (fun H=>oA (rU { s with H:=H } rs) (fun ds=>K (leave own n H (rT ds)).1 (leave own n H (rT ds)).2) .mk) .mk:=(rfl)
@[simp ↓] theorem alw{rs:List s8}{own n:Nat}{K:D→U→Prop}:vL rs own n K (.norm s)=oA (kill s.marks s.H) (fun H=>oA (rU { s with H:=H } rs) (fun ds=>K (leave own n H (rT ds)).1 (leave own n H (rT ds)).2) .mk) .mk:=(rfl)
@[simp ↓] theorem ahG{K:St→Prop}:XO T [] s K=K s:=(rfl)
@[simp ↓] theorem ahH{K:St→Prop}:XO T (o k op::l) s K=gZ T op (some k) s fun s'=>XO T l s' K:=by
 simp[XO,guardOf]
@[simp ↓] theorem ahJ{K:St→Prop}:XO T (u op::l) s K=gZ T op none s fun s'=>XO T l s' K:=by
 simp[XO,guardOf]
@[simp ↓] theorem ahI{g:Bool}{K:St→Prop}:XO T (og j g k op::l) s K=XG (guardOf s.env.get (some (j,g))) (gZ T op (some k) s fun s'=>XO T l s' K) (XO T l { s with env:=(k,.val undef)::s.env } K) .mk:=(rfl)
@[simp ↓] theorem aiw{Q:List Rc→St→Prop}:XT T [] s Q=Q [] s:=(rfl)
@[simp ↓] theorem aix{Q:List Rc→St→Prop}:XT T (o k op::l) s Q=jb T op (some k) s fun rc s'=>XT T l s' fun rs s2=>Q (rc::rs) s2:=by
 simp[XT,guardOf]
@[simp ↓] theorem aiz{Q:List Rc→St→Prop}:XT T (u op::l) s Q=jb T op none s fun rc s'=>XT T l s' fun rs s2=>Q (rc::rs) s2:=by
 simp[XT,guardOf]
@[simp ↓] theorem aiy{g:Bool}{Q:List Rc→St→Prop}:XT T (og j g k op::l) s Q=XG (guardOf s.env.get (some (j,g))) (jb T op (some k) s fun rc s'=>XT T l s' fun rs s2=>Q (rc::rs) s2) (XT T l { s with env:=(k,.val undef)::s.env } fun rs s2=>Q (⟨[],[]⟩::rs) s2) .mk:=(rfl)
@[simp ↓] theorem amN{dst:Option Nat}{K:St→Prop}{d:D}{δ:Dl}:kp s dst K (d,δ)=K { s with env:=put s.env dst d,H:=δ.app s.H (Al.last s.H) }:=(rfl)
@[simp ↓] theorem amO{dst:Option Nat}{R:List Fp}{Q:Rc→St→Prop}{d:D}{δ:Dl}:kt s dst R Q (d,δ)=Q ⟨R,iS s.H.length δ⟩ { s with env:=put s.env dst d,H:=δ.app s.H (Al.last s.H) }:=(rfl)
section
variable{dst:Option Nat}{K:St→Prop}{Q:Rc→St→Prop}
@[simp ↓] theorem aij{x:X}:gZ T (.mv x) dst s K=oA (fG s.env.get s.H s.H.length (.mv x)) (kp s dst K) .mk:=(rfl)
@[simp ↓] theorem ai4{x:X}:jb T (.mv x) dst s Q=oA (fG s.env.get s.H s.H.length (.mv x)) (kt s dst (fH s.env.get s.H (.mv x)) Q) .mk:=(rfl)
@[simp ↓] theorem aio{c a b:X}:gZ T (.pick c a b) dst s K=oA (fG s.env.get s.H s.H.length (.pick c a b)) (kp s dst K) .mk:=(rfl)
@[simp ↓] theorem ai6{c a b:X}:jb T (.pick c a b) dst s Q=oA (fG s.env.get s.H s.H.length (.pick c a b)) (kt s dst (fH s.env.get s.H (.pick c a b)) Q) .mk:=(rfl)
@[simp ↓] theorem ahQ{t:TypeId}{x:X}:gZ T (.box t x) dst s K=oA (fG s.env.get s.H s.H.length (.box t x)) (kp s dst K) .mk:=(rfl)
@[simp ↓] theorem aiF{t:TypeId}{x:X}:jb T (.box t x) dst s Q=oA (fG s.env.get s.H s.H.length (.box t x)) (kt s dst (fH s.env.get s.H (.box t x)) Q) .mk:=(rfl)
@[simp ↓] theorem ahL{t:TypeId}{z:List D}:gZ T (.alloc t z) dst s K=oA (fG s.env.get s.H s.H.length (.alloc t z)) (kp s dst K) .mk:=(rfl)
@[simp ↓] theorem aiB{t:TypeId}{z:List D}:jb T (.alloc t z) dst s Q=oA (fG s.env.get s.H s.H.length (.alloc t z)) (kt s dst (fH s.env.get s.H (.alloc t z)) Q) .mk:=(rfl)
@[simp ↓] theorem ahR{z:List D}{ps:List (Nat×Nat×X)}:gZ T (.build z ps) dst s K=oA (fG s.env.get s.H s.H.length (.build z ps)) (kp s dst K) .mk:=(rfl)
@[simp ↓] theorem aiG{z:List D}{ps:List (Nat×Nat×X)}:jb T (.build z ps) dst s Q=oA (fG s.env.get s.H s.H.length (.build z ps)) (kt s dst (fH s.env.get s.H (.build z ps)) Q) .mk:=(rfl)
@[simp ↓] theorem ahS{t sz:Nat}{z:List D}{n:Nat}{ps:List (Nat×X)}:gZ T (.buildSl t sz z n ps) dst s K=oA (fG s.env.get s.H s.H.length (.buildSl t sz z n ps)) (kp s dst K) .mk:=(rfl)
@[simp ↓] theorem aiH{t sz:Nat}{z:List D}{n:Nat}{ps:List (Nat×X)}:jb T (.buildSl t sz z n ps) dst s Q=oA (fG s.env.get s.H s.H.length (.buildSl t sz z n ps)) (kt s dst (fH s.env.get s.H (.buildSl t sz z n ps)) Q) .mk:=(rfl)
@[simp ↓] theorem ah9{x:X}:gZ T (.ld1 x) dst s K=oA (fG s.env.get s.H s.H.length (.ld1 x)) (kp s dst K) .mk:=(rfl)
@[simp ↓] theorem aiV{x:X}:jb T (.ld1 x) dst s Q=oA (fG s.env.get s.H s.H.length (.ld1 x)) (kt s dst (fH s.env.get s.H (.ld1 x)) Q) .mk:=(rfl)
@[simp ↓] theorem aia{n:Nat}{x:X}:gZ T (.ldN n x) dst s K=oA (fG s.env.get s.H s.H.length (.ldN n x)) (kp s dst K) .mk:=(rfl)
@[simp ↓] theorem aiW{n:Nat}{x:X}:jb T (.ldN n x) dst s Q=oA (fG s.env.get s.H s.H.length (.ldN n x)) (kt s dst (fH s.env.get s.H (.ldN n x)) Q) .mk:=(rfl)
@[simp ↓] theorem ait{a x:X}:gZ T (.st1 a x) dst s K=oA (fG s.env.get s.H s.H.length (.st1 a x)) (kp s dst K) .mk:=(rfl)
@[simp ↓] theorem ai9{a x:X}:jb T (.st1 a x) dst s Q=oA (fG s.env.get s.H s.H.length (.st1 a x)) (kt s dst (fH s.env.get s.H (.st1 a x)) Q) .mk:=(rfl)
@[simp ↓] theorem aiu{n:Nat}{a x:X}:gZ T (.stN n a x) dst s K=oA (fG s.env.get s.H s.H.length (.stN n a x)) (kp s dst K) .mk:=(rfl)
@[simp ↓] theorem aja{n:Nat}{a x:X}:jb T (.stN n a x) dst s Q=oA (fG s.env.get s.H s.H.length (.stN n a x)) (kt s dst (fH s.env.get s.H (.stN n a x)) Q) .mk:=(rfl)
@[simp ↓] theorem ain{x:X}:gZ T (.nilck x) dst s K=oA (fG s.env.get s.H s.H.length (.nilck x)) (kp s dst K) .mk:=(rfl)
@[simp ↓] theorem ai5{x:X}:jb T (.nilck x) dst s Q=oA (fG s.env.get s.H s.H.length (.nilck x)) (kt s dst (fH s.env.get s.H (.nilck x)) Q) .mk:=(rfl)
@[simp ↓] theorem ahO{op:BinOp}{x y:X}:gZ T (.arith op x y) dst s K=oA (fG s.env.get s.H s.H.length (.arith op x y)) (kp s dst K) .mk:=(rfl)
@[simp ↓] theorem aiD{op:BinOp}{x y:X}:jb T (.arith op x y) dst s Q=oA (fG s.env.get s.H s.H.length (.arith op x y)) (kt s dst (fH s.env.get s.H (.arith op x y)) Q) .mk:=(rfl)
@[simp ↓] theorem ah1{iJ:Bool}{ls:List nX}{neg:Bool}{x y:X}:gZ T (.eqS iJ ls neg x y) dst s K=oA (fG s.env.get s.H s.H.length (.eqS iJ ls neg x y)) (kp s dst K) .mk:=(rfl)
@[simp ↓] theorem aiN{iJ:Bool}{ls:List nX}{neg:Bool}{x y:X}:jb T (.eqS iJ ls neg x y) dst s Q=oA (fG s.env.get s.H s.H.length (.eqS iJ ls neg x y)) (kt s dst (fH s.env.get s.H (.eqS iJ ls neg x y)) Q) .mk:=(rfl)
@[simp ↓] theorem aiv{op:UnOp}{x:X}:gZ T (.un op x) dst s K=oA (fG s.env.get s.H s.H.length (.un op x)) (kp s dst K) .mk:=(rfl)
@[simp ↓] theorem ajb{op:UnOp}{x:X}:jb T (.un op x) dst s Q=oA (fG s.env.get s.H s.H.length (.un op x)) (kt s dst (fH s.env.get s.H (.un op x)) Q) .mk:=(rfl)
@[simp ↓] theorem ahY{k:IntKind}{x:X}:gZ T (.conv k x) dst s K=oA (fG s.env.get s.H s.H.length (.conv k x)) (kp s dst K) .mk:=(rfl)
@[simp ↓] theorem aiL{k:IntKind}{x:X}:jb T (.conv k x) dst s Q=oA (fG s.env.get s.H s.H.length (.conv k x)) (kt s dst (fH s.env.get s.H (.conv k x)) Q) .mk:=(rfl)
@[simp ↓] theorem ahP{x:X}:gZ T (.b2s x) dst s K=oA (fG s.env.get s.H s.H.length (.b2s x)) (kp s dst K) .mk:=(rfl)
@[simp ↓] theorem aif{fn:Fn}{first captured:List X}:gZ T (.mkfn fn first captured) dst s K=oA (fG s.env.get s.H s.H.length (.mkfn fn first captured)) (kp s dst K) .mk:=(rfl)
@[simp ↓] theorem ai1{fn:Fn}{first captured:List X}:jb T (.mkfn fn first captured) dst s Q=oA (fG s.env.get s.H s.H.length (.mkfn fn first captured)) (kt s dst (fH s.env.get s.H (.mkfn fn first captured)) Q) .mk:=(rfl)
@[simp ↓] theorem aih{kk:KK}:gZ T (.mkmap kk) dst s K=oA (fG s.env.get s.H s.H.length (.mkmap kk)) (kp s dst K) .mk:=(rfl)
@[simp ↓] theorem aii{t sz bytes:Nat}{z:List D}{l c:X}:gZ T (.mksl t sz bytes z l c) dst s K=oA (fG s.env.get s.H s.H.length (.mksl t sz bytes z l c)) (kp s dst K) .mk:=(rfl)
@[simp ↓] theorem ai3{t sz bytes:Nat}{z:List D}{l c:X}:jb T (.mksl t sz bytes z l c) dst s Q=oA (fG s.env.get s.H s.H.length (.mksl t sz bytes z l c)) (kt s dst (fH s.env.get s.H (.mksl t sz bytes z l c)) Q) .mk:=(rfl)
@[simp ↓] theorem air{sz:Nat}{x:X}{lo hi:Option X}:gZ T (.slc sz x lo hi) dst s K=oA (fG s.env.get s.H s.H.length (.slc sz x lo hi)) (kp s dst K) .mk:=(rfl)
@[simp ↓] theorem ah4{off:Nat}{x:X}:gZ T (.fieldA off x) dst s K=oA (fG s.env.get s.H s.H.length (.fieldA off x)) (kp s dst K) .mk:=(rfl)
@[simp ↓] theorem aiQ{off:Nat}{x:X}:jb T (.fieldA off x) dst s Q=oA (fG s.env.get s.H s.H.length (.fieldA off x)) (kt s dst (fH s.env.get s.H (.fieldA off x)) Q) .mk:=(rfl)
@[simp ↓] theorem ah3{off n:Nat}{iJ:Bool}{x:X}:gZ T (.field off n iJ x) dst s K=oA (fG s.env.get s.H s.H.length (.field off n iJ x)) (kp s dst K) .mk:=(rfl)
@[simp ↓] theorem aiP{off n:Nat}{iJ:Bool}{x:X}:jb T (.field off n iJ x) dst s Q=oA (fG s.env.get s.H s.H.length (.field off n iJ x)) (kt s dst (fH s.env.get s.H (.field off n iJ x)) Q) .mk:=(rfl)
@[simp ↓] theorem ah6{sz:Nat}{x i:X}:gZ T (.idxA sz x i) dst s K=oA (fG s.env.get s.H s.H.length (.idxA sz x i)) (kp s dst K) .mk:=(rfl)
@[simp ↓] theorem aiS{sz:Nat}{x i:X}:jb T (.idxA sz x i) dst s Q=oA (fG s.env.get s.H s.H.length (.idxA sz x i)) (kt s dst (fH s.env.get s.H (.idxA sz x i)) Q) .mk:=(rfl)
@[simp ↓] theorem ah7{sz n:Nat}{x i:X}:gZ T (.idxArr sz n x i) dst s K=oA (fG s.env.get s.H s.H.length (.idxArr sz n x i)) (kp s dst K) .mk:=(rfl)
@[simp ↓] theorem aiT{sz n:Nat}{x i:X}:jb T (.idxArr sz n x i) dst s Q=oA (fG s.env.get s.H s.H.length (.idxArr sz n x i)) (kt s dst (fH s.env.get s.H (.idxArr sz n x i)) Q) .mk:=(rfl)
@[simp ↓] theorem aic{kk:KK}{z:D}{ok:Bool}{m k:X}:gZ T (.lookup kk z ok m k) dst s K=oA (fG s.env.get s.H s.H.length (.lookup kk z ok m k)) (kp s dst K) .mk:=(rfl)
@[simp ↓] theorem aiY{kk:KK}{z:D}{ok:Bool}{m k:X}:jb T (.lookup kk z ok m k) dst s Q=oA (fG s.env.get s.H s.H.length (.lookup kk z ok m k)) (kt s dst (fH s.env.get s.H (.lookup kk z ok m k)) Q) .mk:=(rfl)
@[simp ↓] theorem aid{kk:KK}{m k v:X}:gZ T (.mapUpd kk m k v) dst s K=oA (fG s.env.get s.H s.H.length (.mapUpd kk m k v)) (kp s dst K) .mk:=(rfl)
@[simp ↓] theorem ah2{x:X}{i:Nat}:gZ T (.ext x i) dst s K=oA (fG s.env.get s.H s.H.length (.ext x i)) (kp s dst K) .mk:=(rfl)
@[simp ↓] theorem aiO{x:X}{i:Nat}:jb T (.ext x i) dst s Q=oA (fG s.env.get s.H s.H.length (.ext x i)) (kt s dst (fH s.env.get s.H (.ext x i)) Q) .mk:=(rfl)
@[simp ↓] theorem ahT{f:FuncId}{args:List X}:gZ T (.call f args) dst s K=fg T f (args.map (ev s.env.get)) dst s K .mk:=(rfl)
@[simp ↓] theorem aiI{f:FuncId}{args:List X}:jb T (.call f args) dst s Q=gQ T f (args.map (ev s.env.get)) (fH s.env.get s.H (.call f args)) dst s Q .mk:=(rfl)
@[simp ↓] theorem ahU{f:FuncId}{args:List X}:gZ T (.callN f args) dst s K=fg T f (args.map (ev s.env.get)) dst s K .mk:=(rfl)
@[simp ↓] theorem aiJ{f:FuncId}{args:List X}:jb T (.callN f args) dst s Q=r9 T f (args.map (ev s.env.get)) (fH s.env.get s.H (.callN f args)) dst s Q .mk:=(rfl)
@[simp ↓] theorem ahV{f:X}{args:List X}:gZ T (.callv f args) dst s K=ta T (ev s.env.get f) (args.map (ev s.env.get)) dst s K .mk:=(rfl)
@[simp] theorem ahA{k:FuncId}{first cap args:List D}:ta T (.fn (.func k) first cap) args dst s K .mk=fg T k (first++args++cap) dst s K .mk:=by
 show oA (some (k,first++args++cap)) (fun p=>fg T p.1 p.2 dst s K .mk) .mk=_
 simp only[ye]
@[simp] theorem ahB{v:Nat}{args:List D}:ta T (.ic v) args dst s K .mk=oU T v args dst s K .mk:=(rfl)
@[simp ↓] theorem aiK{f:X}{args:List X}:jb T (.callv f args) dst s Q=oA (jA s.env.get (.callv f args)) (fun p=>gQ T p.1 p.2 (fH s.env.get s.H (.callv f args)) dst s Q .mk) .mk:=(rfl)
@[simp ↓] theorem ahM{t sz bytes:Nat}{x y:X}:gZ T (.app t sz bytes x y) dst s K=oA (fG s.env.get s.H s.H.length (.app t sz bytes x y)) (kp s dst K) .mk:=(rfl)
@[simp ↓] theorem aiC{t sz bytes:Nat}{x y:X}:jb T (.app t sz bytes x y) dst s Q=oA (fG s.env.get s.H s.H.length (.app t sz bytes x y)) (kt s dst (fH s.env.get s.H (.app t sz bytes x y)) Q) .mk:=(rfl)
@[simp ↓] theorem aib{k:wV}{x:X}:gZ T (.len k x) dst s K=oA (fG s.env.get s.H s.H.length (.len k x)) (kp s dst K) .mk:=(rfl)
@[simp ↓] theorem aiX{k:wV}{x:X}:jb T (.len k x) dst s Q=oA (fG s.env.get s.H s.H.length (.len k x)) (kt s dst (fH s.env.get s.H (.len k x)) Q) .mk:=(rfl)
@[simp ↓] theorem aie{isMax:Bool}{xs:List X}:gZ T (.minmax isMax xs) dst s K=oA (fG s.env.get s.H s.H.length (.minmax isMax xs)) (kp s dst K) .mk:=(rfl)
@[simp ↓] theorem ai0{isMax:Bool}{xs:List X}:jb T (.minmax isMax xs) dst s Q=oA (fG s.env.get s.H s.H.length (.minmax isMax xs)) (kt s dst (fH s.env.get s.H (.minmax isMax xs)) Q) .mk:=(rfl)
@[simp ↓] theorem aim{neg:Bool}{x:X}:gZ T (.nilS neg x) dst s K=oA (l6 s.env.get s.H s.H.length (.nilS neg x)) (kp s dst K) .mk:=(rfl)
@[simp ↓] theorem ahW{x:X}:gZ T (.capE x) dst s K=oA (l6 s.env.get s.H s.H.length (.capE x)) (kp s dst K) .mk:=(rfl)
@[simp ↓] theorem ahN{t sz bytes:Nat}{z:List D}{x n:X}:gZ T (.appZ t sz bytes z x n) dst s K=oA (l6 s.env.get s.H s.H.length (.appZ t sz bytes z x n)) (kp s dst K) .mk:=(rfl)
@[simp ↓] theorem ahX{sz:Nat}{z:List D}{x:X}:gZ T (.clr sz z x) dst s K=oA (l6 s.env.get s.H s.H.length (.clr sz z x)) (kp s dst K) .mk:=(rfl)
@[simp ↓] theorem aip{x:X}:gZ T (.rangeM x) dst s K=oA (l6 s.env.get s.H s.H.length (.rangeM x)) (kp s dst K) .mk:=(rfl)
@[simp ↓] theorem aik{x:X}:gZ T (.nextM x) dst s K=r8 (ev s.env.get x) dst s K .mk:=(rfl)
@[simp ↓] theorem ah0{x:X}:gZ T (.entry x) dst s K=oA (l6 s.env.get s.H s.H.length (.entry x)) (kp s dst K) .mk:=(rfl)
end
end
def tJ(n:Nat)(live keys:List Nat)(J:Env→U→List Nat→Bool→Prop)(K:gS):gS:=fun o=>match o with
 | .norm s=>J (forget keys (cut n live s).env) (cut n live s).H (cut n live s).marks (cut n live s).fW
 | o=>K o
@[simp ↓] theorem CH{n:Nat}{live keys:List Nat}{J:Env→U→List Nat→Bool→Prop}{K:gS}{s:St}:tJ n live keys J K (.norm s)=J (forget keys (cut n live s).env) (cut n live s).H (cut n live s).marks (cut n live s).fW:=(rfl)
@[simp ↓] theorem ano{n:Nat}{live keys:List Nat}{J:Env→U→List Nat→Bool→Prop}{K:gS}{id:Nat}{s:St}:tJ n live keys J K (.exit id s)=K (.exit id s):=(rfl)
@[simp ↓] theorem anp{n:Nat}{live keys:List Nat}{J:Env→U→List Nat→Bool→Prop}{K:gS}{s:St}:tJ n live keys J K (.ret s)=K (.ret s):=(rfl)
theorem eN.i{T:gy}{live:List Nat}{a:IR}{s:St}{K:gS}{α:Type}(keys:List Nat)(o3:(keys.all fun k=>live.contains k)=true)(E:α→Env)(Hp:α→U)(P:α→Prop)(μ:α→Nat)(x0:α)
  (h0:P x0) (hE:forget keys s.env=E x0) (hH:s.H=Hp x0)
  (h:∀ x,P x→XC T a { env:=E x,H:=Hp x,marks:=s.marks,fW:=s.fW } (tJ s.H.length live keys (fun e H m r=>∃ x',e=E x'∧H=Hp x'∧m=s.marks∧r=s.fW∧μ x'<μ x∧P x') K)):eN T live a s K .mk:=by
 refine Wc.loop (fun m s'=>∃ x,P x∧m=μ x∧({ s' with env:=forget keys s'.env }:St) = { env:=E x,H:=Hp x,marks:=s.marks,fW:=s.fW }) (μ x0) ⟨x0,h0,rfl,?_⟩ ?_
 ·dsimp only
  rw[Pr o3,hE]
  rw[← hH]
 ·rintro m s' ⟨x,hP,rfl,he⟩
  refine Ev.BJ keys ?_
  rw[he]
  refine(XC.wc (h x hP)).mono fun o ho=>?_
  cases o with
  | norm yw=>
   obtain⟨x',h3,h4,h5,h6,h2,h1⟩:=ho
   refine⟨μ x',h2,x',h1,rfl,?_⟩
   rw[h3]
   generalize cut s.H.length live yw=q at *
   cases q
   simp_all
  | exit=>exact ho
  | ret=>exact ho
def eN.j{T:gy}{live:List Nat}{a:IR}{s:St}{K:gS}{α:Type}(x0:α)(E:α→Env)(Hp:α→U)(P:α→Prop)(μ:α→Nat)
  (h0:P x0) (hE:forget ((E x0).map (·.1)) s.env=E x0) (hH:s.H=Hp x0) (o3:(((E x0).map (·.1)).all fun k=>live.contains k)=true)
  (h:∀ x,P x→XC T a { env:=E x,H:=Hp x,marks:=s.marks,fW:=s.fW } (tJ s.H.length live ((E x0).map (·.1)) (fun e H m r=>∃ x',e=E x'∧H=Hp x'∧m=s.marks∧r=s.fW∧μ x'<μ x∧P x') K)):eN T live a s K .mk:=
 eN.i ((E x0).map (·.1)) o3 E Hp P μ x0 h0 hE hH h
@[simp] theorem ak9{n:Nat}{live:List Nat}{env:Env}{H:U}{m:List Nat}{r:Bool}(h:H.length≤n):cut n live { env:=env,H:=H,marks:=m,fW:=r } = { env:=forget live env,H:=H,marks:=m,fW:=r }:=By h
def Is(x:D):D→U→Prop:=fun d Hn=>d=x∧Hn = []
@[simp] theorem ahb(x d:D)(H:U):Is x d H=(d=x∧H = []):=rfl
@[simp] theorem aoS(x:Bool)(a b:D):yh (.b x) a b=some (cond x a b):=by cases x<;>rfl
@[simp] theorem an7(c:Bool)(a b d e:D)(P:D→Prop):oA (yh (bif c then a else b) d e) P .mk=X2 c (oA (yh a d e) P .mk) (oA (yh b d e) P .mk) .mk:=by cases c<;>simp
@[simp] theorem Z6{n:Nat}{H:U}{d:D}(h:H.length≤n)(own:Nat):leave own n H d=(d,H):=by
 unfold leave;rw[if_pos h]
section
variable{P:D→Prop}{a b:Int}
@[simp] theorem anS:oA (jr .add .i64 a b) P .mk=(mK (a+b)∧P (.i (a+b))):=by simp only[jr,if_true];rw[Ac,ye]
@[simp] theorem aoc:oA (jr .sub .i64 a b) P .mk=(mK (a-b)∧P (.i (a-b))):=by simp only[jr,if_true];rw[Ac,ye]
@[simp] theorem an6:oA (jr .mul .i64 a b) P .mk=(mK (a*b)∧P (.i (a*b))):=by simp only[jr,if_true];rw[Ac,ye]
end
def tR(a b:Int):Int:=IntKind.i64.wrap (a.tdiv b)
def eZ(a b:Int):Int:=a.tmod b
def pf{n:Int}(h:mK n):IntKind.i64.wrap n=n:=by
 unfold mK at h
 simp only[IntKind.wrap,IntKind.bits,IntKind.signed]
 simp
 omega
def Ah{a b:Int}(h0:0≤a)(h1:a≤9223372036854775807)(hb:0<b):tR a b=a / b:=by
 unfold tR
 rw[Int.tdiv_eq_ediv_of_nonneg h0,pf]
 have h2:0≤a / b:=Int.ediv_nonneg h0 (by omega)
 have h3:a / b≤a:=Int.ediv_le_self b h0
 exact oO
def kC{a b:Int}(h0:0≤a):eZ a b=a % b:=Int.tmod_eq_emod_of_nonneg h0
section
variable{P:D→Prop}{a b:Int}{t:Tag P}
@[simp] theorem an8:oA (jr .quo .i64 a b) P t=(b≠0∧P (.i (tR a b))):=by
 cases t
 simp only[jr]
 by_cases h:b=0<;>simp[h,tR]
@[simp] theorem aoa:oA (jr .rem .i64 a b) P t=(b≠0∧P (.i (eZ a b))):=by
 cases t
 simp only[jr]
 by_cases h:b=0<;>simp[h,eZ]
end
@[simp] theorem ami(n:Int):mK n=(-9223372036854775808≤n∧n≤9223372036854775807):=rfl
def gt{α:Type}[Inhabited α](l:List α)(n:Int):α:=l.getD n.toNat default
def eQ{α:Type}[Inhabited α]{l:List α}{n:Int}(h0:0≤n)(h:n<l.length):gt l n∈l:=by
 unfold gt
 rw[List.getD_eq_getElem?_getD,List.getElem?_eq_getElem (by omega),aW]
 exact bJ _
def mw{α:Type}[Inhabited α]{l:List α}{n:Int}(h0:0≤n)(h:n<l.length):gt l n=l[n.toNat]:=by
 unfold gt
 rw[List.getD_eq_getElem?_getD,List.getElem?_eq_getElem (by omega),aW]
def rC{α:Type}[Inhabited α]{l:List α}{n:Nat}(h:n<l.length):gt l n=l[n]:=mw (by omega) (by omega)
def gx{α:Type}[Inhabited α]{l:List α}{n:Int}(h0:0≤n)(h:n<l.length):l.take (n+1).toNat=l.take n.toNat ++ [gt l n]:=by
 rw[mw h0 h,← List.take_succ_eq_append_getElem (by omega)]
 congr 1;omega
def lQ{α:Type}[Inhabited α]{l:List α}{n:Int}(h0:0≤n)(h:n<l.length):l.drop n.toNat=gt l n::l.drop (n.toNat+1):=by
 rw[mw h0 h];exact bR (by omega)
def pc{α:Type}[Inhabited α]{l:List α}{x:α}:x∈l↔∃ n:Int,0≤n∧n<l.length∧gt l n=x:=by
 constructor
 ·intro h
  obtain⟨i,hi,e⟩:=List.getElem_of_mem h
  exact⟨i,by omega,by omega,by rw[rC hi,e]⟩
 ·rintro⟨n,h0,h1,rfl⟩
  exact eQ h0 h1
def jh{α:Type}{l:List α}{n:Int}(h:(l.length:Int)≤n):l.take n.toNat=l:=aC (by omega)
section
variable{α:Type}[Inhabited α]{sz:Nat}{f:α→List D}{P:D→Prop}{k:IntKind}
def u4{l:List α}{n:Int}:oA (nS sz (.sl sz (l.map f)) (.val (.int k n))) P .mk=((0≤n∧n<l.length)∧P (.eW (f (gt l n)))):=by
 simp only[nS,List.length_map,true_and,Ac,ye]
 refine propext ⟨fun⟨h,hp⟩=>⟨h,?_⟩,fun⟨h,hp⟩=>⟨h,?_⟩⟩
 ·rw[List.getD_eq_getElem?_getD,av,List.getElem?_eq_getElem (by omega),bn,aW]at hp
  unfold gt
  rw[List.getD_eq_getElem?_getD,List.getElem?_eq_getElem (by omega),aW]
  exact hp
 ·rw[List.getD_eq_getElem?_getD,av,List.getElem?_eq_getElem (by omega),bn,aW]
  unfold gt at hp
  rw[List.getD_eq_getElem?_getD,List.getElem?_eq_getElem (by omega),aW]at hp
  exact hp
@[simp] theorem anW{l:List α}{n:Int}:oA (nS sz (.sl sz (l.map f)) (.val (.int k n))) P .mk=((0≤n∧n<l.length)∧P (.eW (f (gt l n)))):=u4
@[simp] theorem anV{l:List Int}{n:Int}:oA (nS 1 (dI l) (.val (.int k n))) P .mk=((0≤n∧n<l.length)∧P (.eW [.i (gt l n)])):=by unfold dI;rw[u4,vK]
@[simp] theorem an1{l:List Pos}{n:Int}:oA (nS 5 (e7 l) (.val (.int k n))) P .mk=((0≤n∧n<l.length)∧P (.eW (gt l n).cells)):=u4
@[simp] theorem an0{l:List eO}{n:Int}:oA (nS 2 (fh l) (.val (.int k n))) P .mk=((0≤n∧n<l.length)∧P (.eW [.i (gt l n).1,.i (gt l n).2])):=by unfold fh;rw[u4,uC]
@[simp] theorem anY{l:List α}{n:Int}:oA (nS sz (dN sz f l) (.val (.int k n))) P .mk=((0≤n∧n<l.length)∧P (.eW (f (gt l n)))):=by
 cases l with
 | nil=>
  simp only[dN,nS,RP,cA]
  refine propext ⟨fun h=>h.elim,fun⟨h,_⟩=>?_⟩
  have:=h.1;have:=h.2;simp at this;omega
 | cons a l=>exact u4
end
def Dj(H:U)(k:Nat)(ρ:Nat→Option Nat)(v g sz off n:Nat):Option Nat→D
 | some v'=>.eF v' g sz off n
 | none=>match rowAt H v g with
  | some (_,cs)=>if (off+n)*sz≤cs.length then .sl sz (chunks sz n ((cs.drop (off*sz)).map (eP ρ H k)))else .any
  | none=>.any
@[simp] theorem MT(ρ:Nat→Option Nat)(H:U)(k v g sz off n:Nat):eP ρ H (k+1) (.eF v g sz off n)=Dj H k ρ v g sz off n (ρ v):=by
 rw[eP,if_neg (by simp[closed])]
 unfold Dj;rfl
@[simp] theorem SP(H:U)(k:Nat)(ρ:Nat→Option Nat)(v g sz off n v':Nat):Dj H k ρ v g sz off n (some v') = .eF v' g sz off n:=rfl
def Dk(H:U)(k:Nat)(ρ:Nat→Option Nat)(v g off:Nat):Option Nat→D
 | some v'=>.ptr v' g off
 | none=>match rowAt H v g with
  | some (_,cs)=>.eW ((cs.drop off).map (eP ρ H k))
  | none=>.any
@[simp] theorem aga(ρ:Nat→Option Nat)(H:U)(k v g off:Nat):eP ρ H (k+1) (.ptr v g off)=Dk H k ρ v g off (ρ v):=by
 rw[eP,if_neg (by simp[closed])]
 unfold Dk;rfl
@[simp] theorem af5(H:U)(k:Nat)(ρ:Nat→Option Nat)(v g off v':Nat):Dk H k ρ v g off (some v') = .ptr v' g off:=rfl
def Jd:Option Nat→D
 | some v'=>.fE v'
 | none=>.any
@[simp] theorem af9(ρ:Nat→Option Nat)(H:U)(k v:Nat):eP ρ H (k+1) (.fE v)=Jd (ρ v):=by
 rw[eP,if_neg (by simp[closed])]
 unfold Jd;rfl
@[simp] theorem af3(v:Nat):Jd (some v) = .fE v:=rfl
@[simp] theorem apI{ρ:Nat→Option Nat}{H:U}{k:Nat}{d:D}(h:closed d=true):eP ρ H k d=d:=mD h
@[simp] theorem akK(cs:List D):closed (.agg cs)=fu cs:=by simp only[closed]
@[simp] theorem ak2(cs:List D):closed (.tup cs)=fu cs:=by simp only[closed]
@[simp] theorem akX(cs:List D):closed (.eW cs)=fu cs:=by simp only[closed]
@[simp] theorem ak3(v:Value):closed (.val v)=true:=by simp only[closed]
@[simp] theorem akW:closed .eG=true:=by simp only[closed]
@[simp] theorem JV(f:Fn)(a b:List D):closed (.fn f a b)=(fu a&&fu b):=by simp only[closed]
@[simp] theorem ak0(v g sz off n:Nat):closed (.eF v g sz off n)=false:=by simp only[closed]
@[simp] theorem ak1(v g o:Nat):closed (.ptr v g o)=false:=by simp only[closed]
@[simp] theorem akZ(v:Nat):closed (.fE v)=false:=by simp only[closed]
@[simp] theorem ak4(v:Nat):closed (.ic v)=false:=by simp only[closed]
theorem x6{ρ:Nat→Option Nat}{H:U}{k:Nat}{cs:List D}(h:fu cs=true):cs.map (eP ρ H k)=cs:=by
 conv=>rhs;rw[← aQ cs]
 exact aj fun d hd=>mD (lE h d hd)
@[simp] theorem af8(ρ:Nat→Option Nat)(H:U)(k:Nat)(cs:List D):eP ρ H (k+1) (.agg cs) = .agg (cs.map (eP ρ H k)):=by
 by_cases h:closed (.agg cs)=true
 ·rw[mD h,x6 (by simpa using h)]
 ·rw[eP,if_neg h]
@[simp] theorem agc(ρ:Nat→Option Nat)(H:U)(k:Nat)(cs:List D):eP ρ H (k+1) (.tup cs) = .tup (cs.map (eP ρ H k)):=by
 by_cases h:closed (.tup cs)=true
 ·rw[mD h,x6 (by simpa using h)]
 ·rw[eP,if_neg h]
@[simp] theorem apJ(ρ:Nat→Option Nat)(H:U)(k:Nat)(c:Bool)(a b:D):eP ρ H k (bif c then a else b)=bif c then eP ρ H k a else eP ρ H k b:=by cases c<;>rfl
theorem Jg{ρ:Nat→Option Nat}{H:U}{k:Nat}{cs:List D}(h:fu cs=true):cs.map (eP ρ H (k+1))=cs:=by
 conv=>rhs;rw[← aQ cs]
 exact aj fun d hd=>mD (lE h d hd)
theorem JU{α:Type}{sz:Nat}{f:α→List D}(hf:∀ a,(f a).length=sz):∀ l:List α,chunks sz l.length (l.map f).flatten=l.map f
 | []=>rfl
 | a::l=>by
  simp only[aI,chunks,List.map_cons,aL]
  rw[bf (by rw[hf];exact Nat.le_refl _),aC (by rw[hf];exact Nat.le_refl _),dB (by rw[hf];exact Nat.le_refl _),aR (by rw[hf];exact Nat.le_refl _),bt,JU hf l]
def aae{α:Type}{sz:Nat}{f:α→List D}(hf:∀ a,(f a).length=sz)(l:List α):(l.map f).flatten.length=l.length*sz:=by
 induction l with
 | nil=>simp
 | cons a l ih=>simp only[List.map_cons,aL,ay,hf,ih,aI,bS];omega
def Ou{a b:List D}:fu (a++b)=(fu a&&fu b):=by
 induction a with
 | nil=>rfl
 | cons d a ih=>simp only[bx,fu,ih,Bool.and_assoc]
def Uw{α:Type}{f:α→List D}(hf:∀ a,fu (f a)=true)(l:List α):fu (l.map f).flatten=true:=by
 induction l with
 | nil=>rfl
 | cons a l ih=>simp only[List.map_cons,aL,Ou,hf,ih];rfl
class Fl {α:Type} (f:α→List D) (sz:outParam Nat):Prop where
 len:∀ a,(f a).length=sz
 cl:∀ a,fu (f a)=true
instance:Fl f1 1:=⟨fun _=>by simp,fun _=>by simp[fu]⟩
instance:Fl fB 1:=⟨fun _=>by simp,fun _=>by simp[fu]⟩
instance:Fl fS 2:=⟨fun _=>by simp,fun _=>by simp[fu]⟩
instance:Fl fP 1:=⟨fun _=>by simp,fun _=>by simp[fu]⟩
instance:Fl fI 1:=⟨fun _=>by simp,fun _=>by simp[fu]⟩
instance:Fl Pos.cells 5:=⟨fun _=>rfl,fun _=>by simp⟩
instance:Fl Kind.cells 3:=⟨fun _=>rfl,fun _=>by simp⟩
instance:Fl Clause.cells 4:=⟨fun _=>rfl,fun _=>by simp⟩
section
variable{α:Type}{f:α→List D}{sz:Nat}
@[simp] theorem Ut:cl f [] = []:=by rw[nK];rfl
@[simp] theorem zb(a b:List α):cl f a++cl f b=cl f (a++b):=by simp[nK]
theorem pR(l:List α)(a:α):cl f l++f a=cl f (l ++ [a]):=by simp[nK]
def mY(l:List α)(a:α):cl f (a::l)=f a++cl f l:=by simp[nK]
variable [F:Fl f sz]
include F
@[simp] theorem xa(l:List α):(cl f l).length=l.length*sz:=by rw[nK];exact aae F.len l
theorem tf:∀ (l:List α) (n:Nat),(cl f l).take (n*sz)=cl f (l.take n)
 | [],n=>by simp
 | a::l,0=>by simp
 | a::l,n+1=>by
  rw[mY,ct,mY,← tf l n,bS,List.take_append,F.len,aC (by rw[F.len];omega)]
  congr 2;omega
theorem te:∀ (l:List α) (n:Nat),(cl f l).drop (n*sz)=cl f (l.drop n)
 | [],n=>by simp
 | a::l,0=>by simp
 | a::l,n+1=>by
  rw[mY,List.drop_succ_cons,← te l n,bS,List.drop_append,F.len,aR (by rw[F.len];omega),bt]
  congr 1;omega
@[simp] theorem akG(l:List α):(cl f l).take (l.length*sz)=cl f l:=by rw[tf,dv]
@[simp] theorem sh(l:List α):fu (cl f l)=true:=by rw[nK];exact Uw F.cl l
@[simp] theorem akE{ρ:Nat→Option Nat}{H:U}(l:List α):(cl f l).map (eP ρ H 40)=cl f l:=Jg (sh l)
@[simp] theorem Bo{k:Nat}(l:List α):closed (.sl k (l.map f))=true:=by
 simp only[closed];exact zd F.cl l
def Oq(l:List α)(n j:Nat)(hj:j<sz):(cl f l)[n*sz+j]? = (l[n]?).bind fun a=>(f a)[j]? := by
 have h:(cl f l)[n*sz+j]? = ((cl f l).drop (n*sz))[j]? := by rw[aD]
 rw[h,te]
 by_cases hn:n<l.length
 ·rw[bR hn,mY,ag (by rw[F.len];exact hj),List.getElem?_eq_getElem hn];rfl
 ·have h2:l[n]? = none:=aO (Nat.le_of_not_lt hn)
  rw[aR (Nat.le_of_not_lt hn),h2];simp
def Uu(l:List α)(n:Nat)(a:α)(h:n<l.length):(cl f l).take (n*sz)++f a++(cl f l).drop (n*sz+sz)=cl f (l.take n++a::l.drop (n+1)):=by
 rw[tf,← bS,te,← zb,mY,bj]
end
@[simp] theorem akp(l:List Int)(n:Nat):(cl f1 l).take n=cl f1 (l.take n):=by simpa using tf (f:=f1) l n
@[simp] theorem akn(l:List Int)(n:Nat):(cl f1 l).drop n=cl f1 (l.drop n):=by simpa using te (f:=f1) l n
@[simp] theorem ako(l:List Int)(n:Int):cl f1 l ++ [.i n]=cl f1 (l ++ [n]):=by rw[← pR,vK]
@[simp] theorem akt(l:List (List Int))(x:List Int):cl fI l ++ [dI x]=cl fI (l ++ [x]):=by rw[← pR,VW]
@[simp] theorem akx(l:List (List eO))(x:List eO):cl fP l ++ [fh x]=cl fP (l ++ [x]):=by rw[← pR,VX]
@[simp] theorem akz(l:List eO)(a b:Int):cl fS l ++ [.i a,.i b]=cl fS (l ++ [(a,b)]):=by rw[← pR,uC]
@[simp] theorem aky(l:List Pos)(a b c:List Int)(r q:Int):cl Pos.cells l ++ [dI a,dI b,dI c,.i r,.i q]=cl Pos.cells (l ++ [⟨a,b,c,r,q⟩]):=by rw[← pR];rfl
@[simp] theorem aoT(p:Pos):Pos.mk p.cs p.h0 p.h1 p.ff p.side=p:=rfl
@[simp] theorem anT{l:List Int}{n:Int}{P:D→Prop}:oA (cl f1 l)[n.toNat]? P .mk=(n.toNat<l.length∧P (.i (gt l n))):=by
 have h:=Oq (f:=f1) l n.toNat 0 (by omega)
 simp only[Nat.mul_one,cc]at h
 rw[h]
 by_cases hn:n.toNat<l.length
 ·rw[List.getElem?_eq_getElem hn]
  have e:gt l n=l[n.toNat]:=by unfold gt;rw[List.getD_eq_getElem?_getD,List.getElem?_eq_getElem hn];rfl
  simp[hn,e]
 ·rw[aO (by omega)];simp[hn]
@[simp] theorem aaQ{α:Type}[Inhabited α]{f:α→List D}{sz:Nat}[F:Fl f sz]{l:List α}{t:TypeId}{n:Int}{P:D→Prop}(hz:0<sz):oA (tI sz (n.toNat*sz) (some (t,cl f l))) P .mk=(n.toNat<l.length∧P (.agg (f (gt l n)))):=by
 simp only[tI,xa,← bS]
 rw[Ac,ye]
 have h:n.toNat.succ*sz≤l.length*sz↔n.toNat<l.length:=dV hz
 rw[h]
 refine propext ⟨fun⟨a,p⟩=>⟨a,?_⟩,fun⟨a,p⟩=>⟨a,?_⟩⟩
 ·have e:gt l n=l[n.toNat]:=by unfold gt;rw[List.getD_eq_getElem?_getD,List.getElem?_eq_getElem a];rfl
  rw[te,bR a,mY,bf (by rw[F.len];exact Nat.le_refl _),aC (by rw[F.len];exact Nat.le_refl _),← e]at p
  exact p
 ·have e:gt l n=l[n.toNat]:=by unfold gt;rw[List.getD_eq_getElem?_getD,List.getElem?_eq_getElem a];rfl
  rw[te,bR a,mY,bf (by rw[F.len];exact Nat.le_refl _),aC (by rw[F.len];exact Nat.le_refl _),← e]
  exact p
def ng(ρ:Nat→Option Nat)(H:U)(k sz off n:Nat):Option (TypeId×List D)→D
 | some (_,cs)=>if (off+n)*sz≤cs.length then .sl sz (chunks sz n ((cs.drop (off*sz)).map (eP ρ H k)))else .any
 | none=>.any
@[simp] theorem af4(H:U)(k:Nat)(ρ:Nat→Option Nat)(v g sz off n:Nat):Dj H k ρ v g sz off n none=ng ρ H k sz off n (rowAt H v g):=by
 unfold Dj ng;rfl
@[simp] theorem py{α:Type}{f:α→List D}{sz:Nat}[F:Fl f sz]{ρ:Nat→Option Nat}{H:U}{k n:Nat}{t:TypeId}{l:List α}(h:n=l.length):ng ρ H (k+1) sz 0 n (some (t,cl f l)) = .sl sz (l.map f):=by
 subst h
 unfold ng
 dsimp only
 rw[xa,if_pos (by simp),cw,ew,Jg (sh l),nK,JU F.len]
@[simp] theorem alN{ρ:Nat→Option Nat}{H:U}{k sz:Nat}{p:TypeId×List D}:ng ρ H k sz 0 0 (some p) = .sl sz []:=by
 unfold ng;simp[chunks]
@[simp] theorem ap3:D.sl 1 []=dI []:=by unfold dI;rfl
@[simp] theorem alP{ρ:Nat→Option Nat}{H:U}{k:Nat}{t:TypeId}{n:Int}:ng ρ H (k+1) 1 0 1 (some (t,[.i n]))=dI [n]:=by
 have:=py (f:=f1) (ρ:=ρ) (H:=H) (k:=k) (t:=t) (l:=[n]) (n:=1) rfl
 rw[nK]at this
 simp only[List.map_cons,List.map_nil,vK,aL,c6,aw]at this
 rw[this];unfold dI;simp only[List.map_cons,List.map_nil,vK]
@[simp] theorem alR{ρ:Nat→Option Nat}{H:U}{k:Nat}{t:TypeId}{a b c:List Int}{r q:Int}:ng ρ H (k+1) 5 0 1 (some (t,[dI a,dI b,dI c,.i r,.i q]))=e7 [⟨a,b,c,r,q⟩]:=by
 have h:=py (f:=Pos.cells) (ρ:=ρ) (H:=H) (k:=k) (t:=t) (l:=[⟨a,b,c,r,q⟩]) (n:=1) rfl
 rw[nK]at h
 unfold e7;exact h
@[simp] theorem SY(l:List Int):D.sl 1 (l.map f1)=dI l:=by unfold dI;rfl
@[simp] theorem ap8(l:List Pos):D.sl 5 (l.map Pos.cells)=e7 l:=by unfold e7;rfl
@[simp] theorem MY(l:List eO):D.sl 2 (l.map fS)=fh l:=by unfold fh;rfl
def ri(ρ:Nat→Option Nat)(H:U):Option Ob→Ob
 | some o=>jE ρ H o
 | none=>.dead
@[simp] theorem apH(ρ:Nat→Option Nat)(H:U)(t g:Nat)(cs:List D):ri ρ H (some (.row t g cs)) = .row t g (cs.map (eP ρ H 40)):=rfl
@[simp] theorem apE(ρ:Nat→Option Nat)(H:U)(kk:KK)(es:List (Value×D)):ri ρ H (some (.map kk es)) = .map kk (es.map fun x=>(x.1,eP ρ H 40 x.2)):=rfl
@[simp] theorem apC(ρ:Nat→Option Nat)(H:U):ri ρ H (some .dead) = .dead:=rfl
@[simp] theorem apD(ρ:Nat→Option Nat)(H:U):ri ρ H (some .jZ) = .jZ:=rfl
@[simp] theorem apG(ρ:Nat→Option Nat)(H:U)(rf:Nat)(e:Env)(st:qb):ri ρ H (some (.gu rf e st)) = .gu rf (e.map fun x=>(x.1,eP ρ H 40 x.2)) st:=rfl
def Bx(env:Env)(H:U)(m:List Nat)(r:Bool)(ks:lP):St:={ env:=env.map fun p=>(p.1,eP (ga ks) H 40 p.2),H:=ks.map fun p=>if p.2 then ri (ga ks) H H[p.1]? else .dead,marks:=m.map fun v=>(ga ks v).getD v,fW:=r }
def yk(n:Nat)(env:Env)(H:U)(m:List Nat):List Nat:=dedup (((env.map fun p=>gW n p.2).flatten++((H.take n).map (mT n)).flatten++m.filter (n≤·)).filter (· < H.length))
@[simp low] theorem ry{n:Nat}{live:List Nat}{env:Env}{H:U}{m:List Nat}{r:Bool}(h:¬ H.length≤n):cut n live { env:=env,H:=H,marks:=m,fW:=r }=Bx (forget live env) H m r (ij n (yk n (forget live env) H m)):=by
 unfold cut Bx yk
 dsimp only
 rw[if_neg h]
 rfl
@[simp] theorem amm(K:List Nat):ij 0 K=K.map fun v=>(v,true):=rfl
@[simp] theorem amn(K:List Nat):ij 1 K=(0,true)::K.map fun v=>(v,true):=rfl
@[simp] theorem ZU(K:List Nat):ij 2 K=(0,true)::(1,true)::K.map fun v=>(v,true):=rfl
@[simp] theorem amC(K:List Nat):ij 3 K=(0,true)::(1,true)::(2,true)::K.map fun v=>(v,true):=rfl
@[simp] theorem amD(K:List Nat):ij 4 K=(0,true)::(1,true)::(2,true)::(3,true)::K.map fun v=>(v,true):=rfl
def wy(i:Nat):lP→Nat→Option Nat
 | [],_=>none
 | p::r,v=>if p.2&&p.1 == v then some i else wy (i+1) r v
def afI(ks:lP)(v:Nat):ga ks v=wy 0 ks v:=by
 have key:∀ (ks:lP) (i:Nat),wy i ks v=(ks.findIdx? (fun p=>p.2&&p.1 == v)).map (· + i):=by
  intro ks
  induction ks with
  | nil=>intro i;rfl
  | cons p r ih=>
   intro i
   rw[List.findIdx?_cons]
   unfold wy
   split
   ·simp
   ·rw[ih,Option.map_map]
    congr 1;funext x;simp;omega
 rw[key];simp[ga]
@[simp] theorem apo(v:Nat):ga [] v=none:=rfl
@[simp] theorem apn(p:Nat×Bool)(r:lP)(v:Nat):ga (p::r) v=if (p.2&&p.1 == v)=true then some 0 else wy 1 r v:=by
 rw[afI];rfl
@[simp] theorem apm(i v:Nat):wy i [] v=none:=rfl
@[simp] theorem apl(i:Nat)(p:Nat×Bool)(r:lP)(v:Nat):wy i (p::r) v=if (p.2&&p.1 == v)=true then some i else wy (i+1) r v:=rfl
@[simp] theorem ak8(env:Env)(H:U)(m:List Nat)(r:Bool)(ks:lP):Bx env H m r ks = { env:=env.map fun p=>(p.1,eP (ga ks) H 40 p.2),H:=ks.map fun p=>if p.2 then ri (ga ks) H H[p.1]? else .dead,marks:=m.map fun v=>(ga ks v).getD v,fW:=r }:=rfl
@[simp] theorem ao3(n:Nat)(env:Env)(H:U)(m:List Nat):yk n env H m=dedup (((env.map fun p=>gW n p.2).flatten++((H.take n).map (mT n)).flatten++m.filter (n≤·)).filter (· < H.length)):=rfl
@[simp] theorem alb:dedup [] = []:=rfl
@[simp] theorem ala(x:Nat)(r:List Nat):dedup (x::r)=if x∈r then dedup r else x::dedup r:=rfl
theorem Dv(n:Nat){d:D}(h:closed d=true):gW n d = []:=by
 cases d<;>first|rfl|cases h
@[simp] theorem agM(n:Nat)(l:List Int):gW n (dI l) = []:=rfl
@[simp] theorem aqA(n:Nat)(l:List Pos):gW n (e7 l) = []:=rfl
@[simp] theorem aqz(n:Nat)(l:List eO):gW n (fh l) = []:=rfl
@[simp] theorem aqw{α:Type}(n sz:Nat)(f:α→List D)(l:List α):gW n (dN sz f l) = []:=by cases l<;>rfl
@[simp] theorem aqN(n:Nat)(v:Value):gW n (.val v) = []:=rfl
@[simp] theorem aqD(n:Nat):gW n .eG = []:=rfl
@[simp] theorem aqs(n:Nat)(cs:List D):gW n (.agg cs) = []:=rfl
@[simp] theorem aqH(n:Nat)(cs:List D):gW n (.eW cs) = []:=rfl
@[simp] theorem aqL(n sz:Nat)(es:List (List D)):gW n (.sl sz es) = []:=rfl
@[simp] theorem aqG(n:Nat)(f:Fn)(a b:List D):gW n (.fn f a b) = []:=rfl
@[simp] theorem agN(n v g sz off len:Nat):gW n (.eF v g sz off len)=if n≤v then [v]else []:=rfl
@[simp] theorem aqK(n v g off:Nat):gW n (.ptr v g off)=if n≤v then [v]else []:=rfl
@[simp] theorem aqJ(n v:Nat):gW n (.fE v)=if n≤v then [v]else []:=rfl
@[simp] theorem aqO(n v:Nat):gW n (.ic v)=if n≤v then [v]else []:=rfl
theorem afz(n:Nat){cs:List D}(h:fu cs=true):(cs.map (gW n)).flatten = []:=by
 induction cs with
 | nil=>rfl
 | cons d r ih=>
  simp only[fu,ah]at h
  simp[Dv n h.1,ih h.2]
@[simp] theorem akD(n:Nat){α:Type}{f:α→List D}{sz:Nat}[F:Fl f sz](l:List α):((cl f l).map (gW n)).flatten = []:=afz n (sh l)
@[simp] theorem aaS(n t g:Nat)(cs:List D):mT n (.row t g cs)=(cs.map (gW n)).flatten:=rfl
@[simp] theorem aaR(n:Nat)(kk:KK)(es:List (Value×D)):mT n (.map kk es)=(es.map fun x=>gW n x.2).flatten:=rfl
@[simp] theorem aod(n:Nat):mT n .dead = []:=rfl
theorem Z7{H:U}{d:D}(h:H≠[]):leave 0 0 H d=(eP (fun _=>none) H 40 d,[]):=by
 unfold leave
 rw[if_neg (by cases H with|nil=>exact absurd rfl h|cons a l=>simp)]
 rfl
@[simp] theorem am0{o:Ob}{r:U}{d:D}:leave 0 0 (o::r) d=(eP (fun _=>none) (o::r) 40 d,[]):=Z7 (by simp)
attribute [simp] and_assoc Kind.cells Clause.cells dP Pos.cells dG eH.cells eH.iw
def iP(T:gy)(n:Nat)(live:List Nat)(a:IR)(s:St)(K:gS)(_:Tag (live,a,s,K)):Prop:=Ev T (.loop n live (jS a) s) (PO K)
def Ix(T:gy)(n:Nat)(live:List Nat)(a:IR)(K:gS):gS:=fun o=>match o with
 | .norm s=>iP T n live a (cut n live s) K .mk
 | o=>K o
def SD(T:gy)(v rf:Nat)(b:IR)(dst:Option Nat)(s:St)(K:St→Prop):gS:=fun o=>match o with
 | .norm s1=>∃ ka,s1.H[v]? = some (.gu rf ka .ready)∧XC T b { s1 with H:=s1.H.set v (.gu rf ka .busy) } (ym v rf dst s K)
 | _=>False
def oU.r{T:gy}{v rf:Nat}{args:List D}{dst:Option Nat}{s:St}{K:St→Prop}{env0:Env}{Rd:oT}(hv:s.H[v]? = some (.gu rf env0 .ready))(hR:T.round rf=some Rd)(hl:args.length=Rd.params.length)
  (ca cb:IR) (ha:jS ca=Rd.a) (hb:jS cb=Rd.b)
  (h:XC T ca { env:=re Rd.params args env0,H:=s.H,fW:=true } (SD T v rf cb dst s K)):oU T v args dst s K .mk:=by
 refine⟨rf,env0,Rd,hv,hR,hl,?_⟩
 rw[← ha]
 refine(XC.wc h).mono fun o ho=>?_
 cases o with
 | norm s1=>
  obtain⟨ka,h1,h2⟩:=ho
  exact⟨s1,ka,rfl,h1,by rw[← hb];exact XC.wc h2⟩
 | exit=>exact ho.elim
 | ret=>exact ho.elim
def afK(rf:Nat)(s:St)(K:gS):D→U→Prop:=fun _ H'=>∃ env st,H'[s.H.length+1]? = some (.gu rf env st)∧oA (yj { s with H:=H'.set (s.H.length+1) .dead,marks:=s.H.length::s.marks } st) K .mk
def rp.r{T:gy}{rf:Nat}{live:List Nat}{x:X}{s:St}{K:gS}{f:FuncId}{first cap:List D}{fn:eI}(hr:s.fW=false)(hx:ev s.env.get x = .fn (.func f) first cap)(hf:T.fn f=some fn)(hp:fn.full=true)
  (h:Wf T f (first ++ [.ic (s.H.length+1)]++cap) (s.H ++ [.jZ,.gu rf (forget live s.env) .ready]) (afK rf s K)):rp T rf live x s K .mk:=
 Ev.l5 hr hx hf hp h fun d H' ⟨d',H2,he,env,st,h1,o,h2,h3⟩=>by
  cases he
  exact⟨env,st,o,h1,h2,o,rfl,h3⟩
section
variable{T:gy}{n:Nat}{live:List Nat}{a:IR}{s:St}{K:gS}{id:Nat}
def eN.un(h:iP T s.H.length live a { s with env:=forget live s.env } K .mk):eN T live a s K .mk:=Ev.loop h
def iP.u(h:XC T a s (Ix T n live a K)):iP T n live a s K .mk:=by
 refine Ev.wj (XC.wc h) (fun yw ⟨o,e,k⟩=>?_) fun o ⟨o',e,k⟩ hs=>?_
 ·cases e;exact k
 ·cases e
  cases o with
  | norm=>cases hs
  | exit=>exact⟨_,rfl,k⟩
  | ret=>exact⟨_,rfl,k⟩
@[simp ↓] theorem anr:Ix T n live a K (.norm s)=iP T n live a (cut n live s) K .mk:=(rfl)
@[simp ↓] theorem anq:Ix T n live a K (.exit id s)=K (.exit id s):=(rfl)
@[simp ↓] theorem ans:Ix T n live a K (.ret s)=K (.ret s):=(rfl)
end
def Xk{x b:Bool}{P Q:Prop}(k:cond b P Q)(h:x=b:=by first|(show _=true;first|assumption|exact decide_eq_true (by assumption))|(show _=false;first|assumption|exact decide_eq_false (by assumption))):X2 x P Q .mk:=by
 subst h;cases x<;>simpa using k
class PB (x:Bool) (I:outParam (Prop→Prop)) (q:outParam Prop):Prop where
 t:∀ {P:Prop},I P→x=true→P
 f:x=false→q
instance(priority:=low){x:Bool}:PB x (fun P=>x=true→P) (x=false):=⟨fun h e=>h e,id⟩
instance{p:Prop}[Decidable p]:PB (decide p) (fun P=>p→P) (¬p):=⟨fun h e=>h (of_decide_eq_true e),of_decide_eq_false⟩
instance{p q:Prop}[Decidable p][Decidable q]:PB (decide p&&decide q) (fun P=>p→q→P) (¬(p∧q)):=⟨fun h e=>by
 rw[← ec]at e
 exact h (of_decide_eq_true e).1 (of_decide_eq_true e).2,fun e=>by rw[← ec]at e;exact of_decide_eq_false e⟩
instance{p q:Prop}[Decidable p][Decidable q]:PB (decide p||decide q) (fun P=>p∨q→P) (¬(p∨q)):=⟨fun h e=>by
 rw[← eu]at e
 exact h (of_decide_eq_true e),fun e=>by rw[← eu]at e;exact of_decide_eq_false e⟩
def Xs{x:Bool}{I:Prop→Prop}{q P Q:Prop}[c:PB x I q](h:I P)(k:q→Q):X2 x P Q .mk:=⟨c.t h,fun e=>k (c.f e)⟩
def Yc{T:gy}{f:FuncId}{args:List D}{dst:Option Nat}{s:St}{K:St→Prop}{fn:eI}{x:D}(h:Wf T f args [] fun d H'=>d=x∧H' = [])(k:K { s with env:=put s.env dst x })
  (hf:T.fn f=some fn:=by exact rfl) (hp:fn.full=false:=by exact rfl) (hc:fu args=true:=by simp) (hx:closed x=true:=by simp):fg T f args dst s K .mk:=fg.c hf hp h hc hx k
def Yt{T:gy}{f:FuncId}{args:List D}{R:List Fp}{dst:Option Nat}{s:St}{Q:Rc→St→Prop}{fn:eI}{x:D}(h:Wf T f args [] fun d H'=>d=x∧H' = [])(k:Q ⟨R,[]⟩ { s with env:=put s.env dst x })
  (hf:T.fn f=some fn:=by exact rfl) (hp:fn.full=false:=by exact rfl) (hc:fu args=true:=by simp) (hx:closed x=true:=by simp):gQ T f args R dst s Q .mk:=gQ.c hf hp h hc hx k
def Yr{T:gy}{f:FuncId}{args nZ:List D}{dst:Option Nat}{s:St}{K:St→Prop}{fn:eI}{x:D}(h:Wf T f nZ [] fun d H'=>d=x∧H' = [])(k:K { s with env:=put s.env dst x })
  (hf:T.fn f=some fn:=by exact rfl) (hp:fn.full=false:=by exact rfl) (hs:args.map (eP (fun _=>none) s.H 40)=nZ:=by simp) (hx:flat x=true:=by simp[flat]) (lJ:closed x=true:=by simp):fg T f args dst s K .mk:=fg.r hf hp h hs hx lJ k
def Yg{T:gy}{f:FuncId}{args:List D}{H:U}(fn:eI){K:D→U→Prop}(h:XC T fn.body { env:=qY args,H:=H } (vL fn.results fn.own H.length K))
  (hf:T.fn f=some fn:=by exact rfl) (hl:args.length≤fn.ntmps:=by exact dy rfl) (hz:q6 fn.body=true:=by exact rfl):Wf T f args H K:=Wf.x hf hl h hz
def Yz{T:gy}{f:FuncId}{args:List D}{H:U}(fn:eI)(c:IR){K:D→U→Prop}(h:XC T c { env:=qY args,H:=H } (vL fn.results fn.own H.length K))
  (hf:T.fn f=some fn:=by exact rfl) (hl:args.length≤fn.ntmps:=by exact dy rfl) (hc:jS c=fn.body:=by simp only[wE,wF];exact mE rfl):Wf T f args H K:=Wf.xz fn.own c hf hl hc h
