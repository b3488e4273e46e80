/- Part 9 of the proof of skewer.skewerlaw15.TableValues. -/
import Derived.Test.YtnaefnajkaohgaaGreatDoorE08
set_option linter.all false
namespace Go.AL
open Go
universe u
inductive Tag{α:Sort u}(a:α):Type
 | mk
def oA{α:Type}(x:Option α)(P:α→Prop)(_:Tag P):Prop:=∃ a,x=some a∧P a
@[simp] theorem wH{α:Type}(a:α)(P:α→Prop):oA (some a) P .mk=P a:=by simp[oA]
@[simp] theorem P0{α:Type}(P:α→Prop):oA none P .mk=False:=by simp[oA]
@[simp high] theorem yw{α:Type}{c:Prop}[Decidable c](x:Option α)(P:α→Prop):oA (if c then x else none) P .mk=(c∧oA x P .mk):=by
 by_cases h:c<;>simp[h]
@[simp] theorem alx{α:Type}{c:Prop}[Decidable c](x y:Option α)(P:α→Prop):oA (if c then x else y) P .mk=((c→oA x P .mk)∧(¬c→oA y P .mk)):=by
 by_cases h:c<;>simp[h]
@[simp] theorem aly(x:Option D)(P:D×Dl→Prop):oA (lift x) P .mk=oA x (fun d=>P (d,.no)) .mk:=by
 cases x<;>simp[lift]
@[simp] theorem alm{α β:Type}(x:Option α)(f:α→Option β)(P:β→Prop):oA (x.bind f) P .mk=oA x (fun a=>oA (f a) P .mk) .mk:=by
 cases x<;>simp
def gB:D→Bool→Option Bool
 | .val (.bool b),want=>some (b == want)
 | .val (.tuple _),_=>some false
 | _,_=>none
@[simp] theorem ajy(want:Bool):gB (.val undef) want=some false:=rfl
@[simp] theorem ajx(x:Bool):gB (.b x) true=some x:=by cases x<;>rfl
@[simp] theorem ajw(x:Bool):gB (.b x) false=some (!x):=by cases x<;>rfl
@[simp] theorem ajC(f:fO):guardOf f none=some true:=rfl
@[simp] theorem ajD(f:fO)(j:Nat)(w:Bool):guardOf f (some (j,w))=gB (f j) w:=by
 show(match f j with | .val (.bool b)=>some (b == w) | .val (.tuple _)=>some false|_=>none)=gB (f j) w
 unfold gB;split<;>simp_all
@[simp] theorem aiY(f:fO)(k:Nat):ev f (.t k)=f k:=rfl
@[simp] theorem aiX(f:fO)(d:D):ev f (.c d)=d:=rfl
@[simp] theorem amq(env:Env)(k:Nat)(d:D):put env (some k) d=(k,d)::env:=rfl
@[simp] theorem amp(env:Env)(d:D):put env none d=env:=rfl
@[simp] theorem agT(H:U)(al:Al):Dl.no.app H al=H:=rfl
@[simp] theorem agS(H:U)(al:Al)(ob:Ob):(Dl.new ob).app H al=al.2 ob:=rfl
@[simp] theorem agU(H:U)(al:Al)(v:Nat)(ob:Ob):(Dl.obj v ob).app H al=H.set v ob:=rfl
def setCells(H:U)(v o:Nat)(xs:List D):Option Ob→U
 | some (.row t g cs)=>H.set v (.row t g (cs.take o++xs++cs.drop (o+xs.length)))
 | _=>H
@[simp] theorem agQ(H:U)(al:Al)(v o:Nat)(xs:List D):(Dl.cells v o xs).app H al=setCells H v o xs H[v]? := by
 show(match H[v]? with|some (.row t g cs)=>H.set v (.row t g (cs.take o++xs++cs.drop (o+xs.length)))|_=>H)=_
 unfold setCells;split<;>simp_all
@[simp] theorem amX(H:U)(v o:Nat)(xs:List D)(t g:Nat)(cs:List D):setCells H v o xs (some (.row t g cs))=H.set v (.row t g (cs.take o++xs++cs.drop (o+xs.length))):=rfl
def Hb(k:IntKind)(a b:Int):Int:=k.wrap (a*2 ^ (min b.toNat k.bits))
def yJ(k:IntKind)(a b:Int):Int:=a.fdiv (2 ^ (min b.toNat k.bits))
section
variable{k:IntKind}{a b:Int}
@[simp] theorem ag8:jH .add (.val (.int k a)) (.val (.int k b))=iP .add k a b:=by simp[jH,nR]
@[simp] theorem ahn:jH .sub (.val (.int k a)) (.val (.int k b))=iP .sub k a b:=by simp[jH,nR]
@[simp] theorem ahg:jH .mul (.val (.int k a)) (.val (.int k b))=iP .mul k a b:=by simp[jH,nR]
@[simp] theorem ahi:jH .quo (.val (.int k a)) (.val (.int k b))=iP .quo k a b:=by simp[jH,nR]
@[simp] theorem ahj:jH .rem (.val (.int k a)) (.val (.int k b))=iP .rem k a b:=by simp[jH,nR]
@[simp] theorem ag9:jH .and (.val (.int k a)) (.val (.int k b))=some (.val (.int k (bits .and k a b))):=by simp[jH,nR,iP]
@[simp] theorem aha:jH .andNot (.val (.int k a)) (.val (.int k b))=some (.val (.int k (bits .andNot k a b))):=by simp[jH,nR,iP]
@[simp] theorem ahb:jH .eql (.val (.int k a)) (.val (.int k b))=some (.b (decide (a=b))):=by simp[jH,nR,iP,BEq.beq]
@[simp] theorem ahh:jH .neq (.val (.int k a)) (.val (.int k b))=some (.b (!decide (a=b))):=by simp[jH,nR,iP,bne,BEq.beq]
@[simp] theorem ahf:jH .lss (.val (.int k a)) (.val (.int k b))=some (.b (decide (a<b))):=by simp[jH,nR,iP]
@[simp] theorem ahe:jH .leq (.val (.int k a)) (.val (.int k b))=some (.b (decide (a≤b))):=by simp[jH,nR,iP]
@[simp] theorem ahd:jH .gtr (.val (.int k a)) (.val (.int k b))=some (.b (decide (a>b))):=by simp[jH,nR,iP]
@[simp] theorem ahc:jH .geq (.val (.int k a)) (.val (.int k b))=some (.b (decide (a≥b))):=by simp[jH,nR,iP]
@[simp] theorem ahk{k2:IntKind}:jH .shl (.val (.int k a)) (.val (.int k2 b))=if 0≤b then some (.val (.int k (Hb k a b)))else none:=rfl
@[simp] theorem ahl{k2:IntKind}:jH .shr (.val (.int k a)) (.val (.int k2 b))=if 0≤b then some (.val (.int k (yJ k a b)))else none:=rfl
@[simp] theorem ahm(op:BinOp)(s t:ByteArray):jH op (.val (.string s)) (.val (.string t))=yR op s t:=rfl
@[simp] theorem aoj(x:Bool):B4 .not (.b x)=some (.b !x):=rfl
@[simp] theorem aoi(n:Int):B4 .neg (.i n)=if lR (-n)then some (.i (-n))else none:=rfl
@[simp] theorem aiK(k':IntKind):ER k' (.val (.int k a))=some (.val (.int k' (k'.wrap a))):=rfl
end
@[simp] theorem ai3(off v g o:Nat):z7 off (.ptr v g o)=some (.ptr v g (o+off)):=rfl
@[simp] theorem ai2(off:Nat)(cs:List D):z7 off (.fh cs)=some (.fh (cs.drop off)):=rfl
@[simp] theorem ai4(off n:Nat)(cs:List D):vD off n true (.agg cs)=if off+n≤cs.length then some (.agg ((cs.drop off).take n))else none:=rfl
@[simp] theorem ai5(off n:Nat)(cs:List D):vD off n false (.agg cs)=cs[off]? := rfl
@[simp] theorem aiZ(ds:List D)(i:Nat):E7 (.tup ds) i=ds[i]? := rfl
@[simp] theorem ak8(v g o:Nat):wF (.ptr v g o)=some (.ptr v g o):=rfl
@[simp] theorem ak7(cs:List D):wF (.fh cs)=some (.fh cs):=rfl
@[simp] theorem ak6(f:FuncId)(a b:List D):wF (.fn (.func f) a b)=some (.fn (.func f) a b):=rfl
@[simp] theorem ak9(v:Nat):wF (.gP v)=some (.gP v):=rfl
def rowOf(k:Nat):Option Ob→Option (TypeId×List D)
 | some (.row t g cs)=>if g=k then some (t,cs)else none
 | _=>none
@[simp] theorem adu(H:U)(v k:Nat):rowAt H v k=rowOf k H[v]? := by
 unfold rowAt rowOf;split<;>simp_all
@[simp] theorem adv(k:Nat)(t:TypeId)(g:Nat)(cs:List D):rowOf k (some (.row t g cs))=if g=k then some (t,cs)else none:=rfl
@[simp] theorem akn(v g o:Nat)(H:U):rX (.ptr v g o) H=(rowAt H v g).bind fun p=>p.2[o]? := by
 show(match rowAt H v g with|some (_,cs)=>cs[o]? | none=>none)=_
 cases rowAt H v g<;>rfl
@[simp] theorem akm(cs:List D)(H:U):rX (.fh cs) H=cs[0]? := rfl
def uG(n o:Nat):Option (TypeId×List D)→Option D
 | some p=>if o+n≤p.2.length then some (.agg ((p.2.drop o).take n))else none
 | none=>none
@[simp] theorem akr(n o:Nat):uG n o none=none:=rfl
@[simp low] theorem aks(n o:Nat)(p:TypeId×List D):uG n o (some p)=if o+n≤p.2.length then some (.agg ((p.2.drop o).take n))else none:=rfl
@[simp] theorem akp(n v g o:Nat)(H:U):rY n (.ptr v g o) H=uG n o (rowAt H v g):=by
 show(match rowAt H v g with|some (_,cs)=>if o+n≤cs.length then some (D.agg ((cs.drop o).take n))else none|none=>none)=_
 cases rowAt H v g<;>rfl
@[simp] theorem ako(n:Nat)(cs:List D)(H:U):rY n (.fh cs) H=if n≤cs.length then some (.agg (cs.take n))else none:=rfl
@[simp] theorem anO(v g o:Nat)(x:D)(H:U):wY (.ptr v g o) x H=(rowAt H v g).bind fun p=>if o<p.2.length∧one x=true then some (.any,.cells v o [x])else none:=by
 show(match rowAt H v g with|some (_,cs)=>if o<cs.length∧one x=true then some (D.any,Dl.cells v o [x])else none|none=>none)=_
 cases rowAt H v g<;>rfl
@[simp] theorem anP(n v g o:Nat)(xs:List D)(H:U):wZ n (.ptr v g o) (.agg xs) H=(rowAt H v g).bind fun p=>if xs.length=n∧o+n≤p.2.length then some (.any,.cells v o xs)else none:=by
 show(match rowAt H v g with|some (_,cs)=>if xs.length=n∧o+n≤cs.length then some (D.any,Dl.cells v o xs)else none|none=>none)=_
 cases rowAt H v g<;>rfl
@[simp] theorem ahs(t:TypeId)(cs:List D)(n:Nat):p6 t (.agg cs) n=some (.ptr n 0 0,.new (.row t 0 cs)):=rfl
@[simp] theorem ahJ(cs:List D):cellsOf (.agg cs)=some cs:=rfl
@[simp] theorem ahT(k:IntKind)(n:Int):cellsOf (.val (.int k n))=some [.val (.int k n)]:=rfl
@[simp] theorem ahK(b:Bool):cellsOf (.b b)=some [.b b]:=rfl
@[simp] theorem ahY(b:ByteArray):cellsOf (.val (.string b))=some [.val (.string b)]:=rfl
@[simp] theorem ahX(sz:Nat)(es:List (List D)):cellsOf (.sl sz es)=some [.sl sz es]:=rfl
@[simp] theorem ahL(l:List Int):cellsOf (dI l)=some [dI l]:=rfl
@[simp] theorem ahN(l:List Pos):cellsOf (gb l)=some [gb l]:=rfl
@[simp] theorem ahM(l:List eY):cellsOf (gQ l)=some [gQ l]:=rfl
@[simp] theorem ahQ:cellsOf .emp=some [.emp]:=rfl
@[simp] theorem ahV(v g sz off n:Nat):cellsOf (.eT v g sz off n)=some [.eT v g sz off n]:=rfl
@[simp] theorem ahW(v g o:Nat):cellsOf (.ptr v g o)=some [.ptr v g o]:=rfl
@[simp] theorem ahS(cs:List D):cellsOf (.fh cs)=some [.fh cs]:=rfl
@[simp] theorem ahU(v:Nat):cellsOf (.omap v)=some [.omap v]:=rfl
@[simp] theorem ahR(f:Fn)(a b:List D):cellsOf (.fn f a b)=some [.fn f a b]:=rfl
@[simp] theorem al6(k:IntKind)(n:Int):one (.val (.int k n))=true:=rfl
@[simp] theorem alY(b:Bool):one (.b b)=true:=rfl
@[simp] theorem amb(b:ByteArray):one (.val (.string b))=true:=rfl
@[simp] theorem ama(sz:Nat)(es:List (List D)):one (.sl sz es)=true:=rfl
@[simp] theorem alZ(l:List Int):one (dI l)=true:=rfl
@[simp] theorem al1(l:List Pos):one (gb l)=true:=rfl
@[simp] theorem al0(l:List eY):one (gQ l)=true:=rfl
@[simp] theorem al3:one .emp=true:=rfl
@[simp] theorem al8(v g sz off n:Nat):one (.eT v g sz off n)=true:=rfl
@[simp] theorem al9(v g o:Nat):one (.ptr v g o)=true:=rfl
@[simp] theorem al5(cs:List D):one (.fh cs)=true:=rfl
@[simp] theorem al7(v:Nat):one (.omap v)=true:=rfl
@[simp] theorem al4(f:Fn)(a b:List D):one (.fn f a b)=true:=rfl
@[simp] theorem ahB(f:fO)(z:List D)(ps:List (Nat×Nat×X)):xt f z ps=(partsOf f ps).bind fun l=>(lay l z).bind fun cs=>some (D.agg cs):=by
 unfold xt;cases partsOf f ps with
 | none=>rfl
 | some l=>simp only[Option.bind_some];cases lay l z<;>rfl
@[simp] theorem ahA(f:fO)(t sz:Nat)(z:List D)(m:Nat)(ps:List (Nat×X))(n:Nat):tO f t sz z m ps n=(partsOf f (ps.map fun p=>(p.1*sz,sz,p.2))).bind fun l=>(lay l (List.replicate m z).flatten).bind fun cs=>some (.eT n 0 sz 0 m,.new (.row t 0 cs)):=by
 unfold tO;cases partsOf f (ps.map fun p=>(p.1*sz,sz,p.2))with
 | none=>rfl
 | some l=>simp only[Option.bind_some];cases lay l (List.replicate m z).flatten<;>rfl
@[simp] theorem amj(f:fO):partsOf f []=some []:=rfl
@[simp] theorem ami(f:fO)(o n:Nat)(x:X)(r:List (Nat×Nat×X)):partsOf f ((o,n,x)::r)=(cellsOf (ev f x)).bind fun cs=>(partsOf f r).bind fun l=>some ((o,n,cs)::l):=by
 show(match cellsOf (ev f x),partsOf f r with|some cs,some l=>some ((o,n,cs)::l)|_,_=>none)=_
 cases cellsOf (ev f x)<;>cases partsOf f r<;>rfl
@[simp] theorem ajL(sz v g off len:Nat)(k:IntKind)(n:Int):mL sz (.eT v g sz off len) (.val (.int k n))=if 0≤n∧n<len then some (.ptr v g ((off+n.toNat)*sz))else none:=by
 simp[mL]
@[simp] theorem ajN(sz n v g o:Nat)(k:IntKind)(i:Int):A0 sz n (.ptr v g o) (.val (.int k i))=if 0≤i∧i<n then some (.ptr v g (o+i.toNat*sz))else none:=rfl
@[simp] theorem ajM(sz n:Nat)(cs:List D)(k:IntKind)(i:Int):A0 sz n (.fh cs) (.val (.int k i))=if 0≤i∧i<n then some (.fh (cs.drop (i.toNat*sz)))else none:=rfl
@[simp] theorem ajO(sz n:Nat)(b:Bool)(cs:List D)(k:IntKind)(i:Int):Gb sz n b (.agg cs) (.val (.int k i))=if 0≤i∧i<n then vD (i.toNat*sz) sz b (.agg cs)else none:=rfl
@[simp] theorem ahq(f:fO)(n:Int):ij f none n=some n:=rfl
def JU:D→Option Int
 | .val (.int _ n)=>some n
 | _=>none
@[simp] theorem ajQ(k:IntKind)(n:Int):JU (.val (.int k n))=some n:=rfl
@[simp] theorem ahr(f:fO)(x:X)(n:Int):ij f (some x) n=JU (ev f x):=by
 show(match ev f x with | .val (.int _ n)=>some n|_=>none)=_
 unfold JU;split<;>simp_all
@[simp] theorem adZ(f:fO)(sz:Nat)(es:List (List D))(lo hi:Option X):q6 f sz (.sl sz es) lo hi=(ij f lo 0).bind fun l=>(ij f hi es.length).bind fun h=>if 0≤l∧l≤h∧h≤es.length then some (.sl sz ((es.drop l.toNat).take (h.toNat-l.toNat)))else none:=by
 simp only[q6]
 cases ij f lo 0<;>cases ij f hi es.length<;>simp
@[simp] theorem anG(f:fO)(sz v g off len:Nat)(lo hi:Option X):q6 f sz (.eT v g sz off len) lo hi=(ij f lo 0).bind fun l=>(ij f hi len).bind fun h=>if 0≤l∧l≤h∧h≤len then some (.eT v g sz (off+l.toNat) (h.toNat-l.toNat))else none:=by
 simp only[q6]
 cases ij f lo 0<;>cases ij f hi len<;>simp
@[simp] theorem anF(f:fO)(sz:Nat)(lo hi:Option X):q6 f sz .emp lo hi=(ij f lo 0).bind fun l=>(ij f hi 0).bind fun h=>if l=0∧h=0 then some .emp else none:=by
 simp only[q6]
 cases ij f lo 0<;>cases ij f hi 0<;>simp
theorem adY{α:Type}(f:α→List D)(l:List α)(a b:Nat):((l.map f).drop a).take b=((l.drop a).take b).map f:=by rw[List.map_take,eP]
@[simp] theorem anE(f:fO)(l:List Pos)(lo hi:Option X):q6 f 5 (gb l) lo hi=(ij f lo 0).bind fun a=>(ij f hi l.length).bind fun h=>if 0≤a∧a≤h∧h≤l.length then some (gb ((l.drop a.toNat).take (h.toNat-a.toNat)))else none:=by
 unfold gb;rw[adZ,List.length_map];simp only[adY]
@[irreducible] def cl{α:Type}(f:α→List D)(l:List α):List D:=(l.map f).flatten
theorem l8{α:Type}(f:α→List D)(l:List α):cl f l=(l.map f).flatten:=by rw[cl]
@[simp] theorem ad0(sz:Nat)(H:U)(es:List (List D)):jM sz H (.sl sz es)=some (es.flatten,es.length):=by simp[jM]
@[simp] theorem He{α:Type}(sz:Nat)(f:α→List D)(H:U)(l:List α):jM sz H (.sl sz (l.map f))=some (cl f l,l.length):=by
 rw[ad0,List.length_map,l8]
@[simp] theorem anH(H:U)(l:List Int):jM 1 H (dI l)=some (cl f1 l,l.length):=by unfold dI;exact He ..
@[simp] theorem anK(H:U)(l:List Pos):jM 5 H (gb l)=some (cl Pos.cells l,l.length):=by unfold gb;exact He ..
@[simp] theorem anI{α:Type}(sz:Nat)(f:α→List D)(H:U)(l:List α):jM sz H (dN sz f l)=some (cl f l,l.length):=by
 cases l with
 | nil=>show some ([],0)=_;rw[l8];rfl
 | cons a l=>exact He sz f H (a::l)
@[simp] theorem anL(sz:Nat)(H:U):jM sz H .emp=some ([],0):=rfl
@[simp] theorem anN(sz:Nat)(H:U)(v g off len:Nat):jM sz H (.eT v g sz off len)=(rowAt H v g).bind fun p=>if (off+len)*sz≤p.2.length then some ((p.2.drop (off*sz)).take (len*sz),len)else none:=by
 simp only[jM]
 cases rowAt H v g<;>simp
@[simp] theorem agV(t sz bytes v g len:Nat)(y:D)(H:U)(vn:Nat):py t sz bytes (.eT v g sz 0 len) y H vn=(jM sz H y).bind fun q=>(rowAt H v g).bind fun r=>if r.1=t∧len*sz≤r.2.length∧(len+q.2)*bytes≤140737488355328∧len+q.2≤9223372036854775807 then some (.eT v (g+1) sz 0 (len+q.2),.obj v (.row t (g+1) (r.2.take (len*sz)++q.1)))else none:=by
 simp only[py]
 cases jM sz H y with
 | none=>rfl
 | some q=>cases rowAt H v g<;>simp
@[simp low] theorem agW(t sz bytes v g off len:Nat)(y:D)(H:U)(vn:Nat):py t sz bytes (.eT v g sz off len) y H vn=(jM sz H y).bind fun q=>(rowAt H v g).bind fun r=>if r.1=t∧(off+len)*sz≤r.2.length∧(len+q.2)*bytes≤140737488355328∧len+q.2≤9223372036854775807 then some (.eT v (g+1) sz 0 (len+q.2),.obj v (.row t (g+1) ((r.2.drop (off*sz)).take (len*sz)++q.1)))else none:=by
 simp only[py]
 cases jM sz H y with
 | none=>rfl
 | some q=>cases rowAt H v g<;>simp
@[simp] theorem agR(t sz bytes:Nat)(y:D)(H:U)(vn:Nat):py t sz bytes .emp y H vn=(jM sz H y).bind fun q=>if q.2=0 then some (.emp,.no)else if q.2*bytes≤140737488355328∧q.2≤9223372036854775807 then some (.eT vn 0 sz 0 q.2,.new (.row t 0 q.1))else none:=by
 simp only[py]
 cases jM sz H y<;>rfl
@[simp] theorem ak5(t sz bytes:Nat)(z:List D)(k k':IntKind)(n m:Int)(v:Nat):yq t sz bytes z (.val (.int k n)) (.val (.int k' m)) v=if 0≤n∧n≤m∧nU m 9223372036854775807∧nU ((bytes:Int)*m) 281474976710656 then some (.eT v 0 sz 0 n.toNat,.new (.row t 0 (List.replicate m.toNat z).flatten))else none:=rfl
@[simp] theorem aku(n:Int)(k:Nat):nU n k=(n≤(k:Int)):=rfl
@[simp] theorem ajS(f:fO):om f []=some []:=rfl
def JQ:D→Option Int
 | .val (.int .i64 n)=>some n
 | _=>none
@[simp] theorem ajK(n:Int):JQ (.i n)=some n:=rfl
@[simp] theorem ajR(f:fO)(x:X)(r:List X):om f (x::r)=(JQ (ev f x)).bind fun n=>(om f r).bind fun l=>some (n::l):=by
 show(match ev f x,om f r with | .val (.int .i64 n),some l=>some (n::l)|_,_=>none)=_
 unfold JQ
 split
 ·rename_i h1 h2;rw[h1,h2];rfl
 ·rename_i h
  split
  ·rename_i n hn
   cases hl:om f r with
   | none=>rfl
   | some l=>exact absurd hl (h _ _ hn)
  ·rfl
def Kk(isMax:Bool):List Int→Option D
 | [a,b]=>some (.i (if isMax then max a b else min a b))
 | [a,b,c]=>some (.i (if isMax then max (max a b) c else min (min a b) c))
 | _=>none
@[simp] theorem mm2(m:Bool)(a b:Int):Kk m [a,b]=some (.i (if m then max a b else min a b)):=rfl
@[simp] theorem ak4(f:fO)(m:Bool)(xs:List X):yp f m xs=(om f xs).bind (Kk m):=by
 unfold yp
 cases om f xs with
 | none=>rfl
 | some l=>simp only[Option.bind_some];unfold Kk;split<;>simp_all
@[simp] theorem ahD(f:fO)(g:FuncId)(args:List X):iW f (.call g args)=some (g,args.map (ev f)):=rfl
def EB(args:List D):D→Option (FuncId×List D)
 | .fn (.func k) first cap=>some (k,first++args++cap)
 | _=>none
@[simp] theorem ahC(args:List D)(k:FuncId)(first cap:List D):EB args (.fn (.func k) first cap)=some (k,first++args++cap):=rfl
@[simp] theorem Sg(f:fO)(g:X)(args:List X):iW f (.callv g args)=EB (args.map (ev f)) (ev f g):=by
 show(match ev f g with | .fn (.func k) first cap=>some (k,first++args.map (ev f)++cap)|_=>none)=_
 unfold EB;split<;>simp_all
def J5(z:D)(ok:Bool):Option D→D
 | some d=>if ok then .tup [d,.b true]else d
 | none=>if ok then .tup [z,.b false]else z
@[simp] theorem akR(z:D)(ok:Bool)(d:D):J5 z ok (some d)=if ok then .tup [d,.b true]else d:=rfl
@[simp] theorem akQ(z:D)(ok:Bool):J5 z ok none=if ok then .tup [z,.b false]else z:=rfl
@[simp] theorem akS(kk:KK)(z:D)(ok:Bool)(v:Nat)(k:D)(H:U):wy kk z ok (.omap v) k H=(keyOf k).bind fun kv=>(jU H v).bind fun p=>if p.1=kk∧p.1.has kv=true then some (J5 z ok (kI p.2 kv))else none:=by
 unfold wy
 cases keyOf k with
 | none=>rfl
 | some kv=>
  cases h:jU H v with
  | none=>simp[h]
  | some p=>
   simp only[h,Option.bind_some]
   split
   ·cases kI p.2 kv<;>rfl
   ·rfl
@[simp] theorem ak3(kk:KK)(v:Nat)(k x:D)(H:U):uK kk (.omap v) k x H=(keyOf k).bind fun kv=>(jU H v).bind fun p=>if p.1=kk∧p.1.has kv=true then some (.any,.obj v (.map p.1 (jA p.2 kv x)))else none:=by
 unfold uK
 cases keyOf k with
 | none=>rfl
 | some kv=>cases h:jU H v<;>simp[h]
def mapOf:Option Ob→Option (KK×List (Value×D))
 | some (.map kk es)=>some (kk,es)
 | _=>none
@[simp] theorem ak2(kk:KK)(es:List (Value×D)):mapOf (some (.map kk es))=some (kk,es):=rfl
@[simp] theorem ak1(H:U)(v:Nat):jU H v=mapOf H[v]? := by
 unfold jU mapOf;split<;>simp_all
@[simp] theorem akj(s:ByteArray):keyOf (.val (.string s))=some (.string s):=rfl
@[simp] theorem akh(b:Bool):keyOf (.b b)=some (.bool b):=rfl
@[simp] theorem aki(k:IntKind)(n:Int):keyOf (.val (.int k n))=some (.int k n):=rfl
@[simp] theorem aky(v:Nat)(H:U):na .map (.omap v) H=(jU H v).bind fun p=>some (.i p.2.length):=by
 simp only[na]
 cases jU H v<;>rfl
@[simp] theorem aiU(ls:List mR)(neg:Bool)(x y:D):vx false ls neg x y=(my ls [x] [y]).bind fun r=>some (.b (if neg then !r else r)):=by
 simp only[vx]
 cases my ls [x] [y]<;>rfl
@[simp] theorem aiT(ls:List mR)(neg:Bool)(x y:List D):vx true ls neg (.agg x) (.agg y)=(my ls x y).bind fun r=>some (.b (if neg then !r else r)):=by
 simp only[vx]
 cases my ls x y<;>rfl
@[simp] theorem ahI:my [] [] []=some true:=rfl
@[simp] theorem ahH(l:mR)(ls:List mR)(x y:D)(xs ys:List D):my (l::ls) (x::xs) (y::ys)=(qz l x y).bind fun a=>(my ls xs ys).bind fun b=>some (a&&b):=by
 show(match qz l x y,my ls xs ys with|some a,some b=>some (a&&b)|_,_=>none)=_
 cases qz l x y<;>cases my ls xs ys<;>rfl
@[simp] theorem ahF(a b:Int):qz .int (.i a) (.i b)=some (decide (a=b)):=by simp[qz,BEq.beq]
@[simp] theorem ahE(a b:Bool):qz .bool (.b a) (.b b)=some (a == b):=rfl
@[simp] theorem ahG(a b:ByteArray):qz .str (.val (.string a)) (.val (.string b))=some (a.data.toList == b.data.toList):=rfl
attribute [simp] fH kill qq yG fJ iy sE qX p5 pZ kY Gx lay Al.last kI jA nS KK.has fy
@[simp] theorem aor(v g sz off n:Nat):lK (.eT v g sz off n) = [(v,none)]:=rfl
@[simp] theorem aoq(v:Nat):lK (.omap v) = [(v,none)]:=rfl
@[simp] theorem aot(sz:Nat)(es:List (List D)):lK (.sl sz es) = []:=rfl
@[simp] theorem aon:lK .emp = []:=rfl
@[simp] theorem aou(v:Value):lK (.val v) = []:=rfl
@[simp] theorem aol(cs:List D):lK (.agg cs) = []:=rfl
@[simp] theorem aoo(cs:List D):lK (.fh cs) = []:=rfl
@[simp] theorem aos(v g o:Nat):lK (.ptr v g o) = []:=rfl
@[simp] theorem aom(l:List Int):lK (dI l) = []:=by unfold dI;rfl
def XB(d:D)(P Q:Prop)(_:Tag (PProd.mk P Q)):Prop:=∃ x,d = .b x∧(x=true→P)∧(x=false→Q)
def X2(x:Bool)(P Q:Prop)(_:Tag (PProd.mk P Q)):Prop:=(x=true→P)∧(x=false→Q)
@[simp] theorem aeS(P Q:Prop):X2 true P Q .mk=P:=by simp[X2]
@[simp] theorem aeP(P Q:Prop):X2 false P Q .mk=Q:=by simp[X2]
@[simp] theorem aeQ(x:Bool)(P Q:Prop):X2 (!x) P Q .mk=X2 x Q P .mk:=by cases x<;>simp[X2]
@[simp] theorem aeR(x y:Bool)(P Q:Prop):X2 (!x || !y) P Q .mk=X2 (x&&y) Q P .mk:=by cases x<;>cases y<;>simp[X2]
theorem X2.d{p:Prop}[Decidable p]{P Q:Prop}(h:p→P)(k:¬p→Q):X2 (decide p) P Q .mk:=⟨fun e=>h (of_decide_eq_true e),fun e=>k (of_decide_eq_false e)⟩
theorem X2.a{p q:Prop}[Decidable p][Decidable q]{P Q:Prop}(h:p→q→P)(k:¬(p∧q)→Q):X2 (decide p&&decide q) P Q .mk:=by
 rw[← eG];exact X2.d (fun e=>h e.1 e.2) k
theorem X2.o{p q:Prop}[Decidable p][Decidable q]{P Q:Prop}(h:p∨q→P)(k:¬(p∨q)→Q):X2 (decide p||decide q) P Q .mk:=by
 rw[← eJ];exact X2.d h k
theorem X2.z{p:Prop}[Decidable p]{P Q:Prop}(h:¬p)(k:Q):X2 (decide p) P Q .mk:=X2.d (fun n=>absurd n h) (fun _=>k)
@[simp] theorem aeU(x:Bool)(a b:D)(P Q:Prop):XB (bif x then a else b) P Q .mk=X2 x (XB a P Q .mk) (XB b P Q .mk) .mk:=by
 cases x<;>simp
theorem X2.b{x:Bool}{P Q:Prop}(h:x=true→P)(k:x=false→Q):X2 x P Q .mk:=⟨h,k⟩
theorem Xg{p q:Prop}(b:q)(a:p:=by first|omega|assumption):p∧q:=⟨a,b⟩
@[simp] theorem aeT(x:Bool)(P Q:Prop):XB (.b x) P Q .mk=X2 x P Q .mk:=by
 cases x<;>simp[XB,X2]
@[simp high] theorem aeW(P Q:Prop):XB (.b true) P Q .mk=P:=by simp[XB]
@[simp high] theorem aeV(P Q:Prop):XB (.b false) P Q .mk=Q:=by simp[XB]
def XG(g:Option Bool)(P Q:Prop)(_:Tag (PProd.mk P Q)):Prop:=∃ x,g=some x∧(x=true→P)∧(x=false→Q)
@[simp] theorem afc(x:Bool)(P Q:Prop):XG (some x) P Q .mk=X2 x P Q .mk:=by
 cases x<;>simp[XG,X2]
@[simp high] theorem aff(P Q:Prop):XG (some true) P Q .mk=P:=by simp[XG]
@[simp high] theorem afe(P Q:Prop):XG (some false) P Q .mk=Q:=by simp[XG]
@[simp] theorem afd(x w:Bool)(a b:D)(P Q:Prop):XG (gB (bif x then a else b) w) P Q .mk=X2 x (XG (gB a w) P Q .mk) (XG (gB b w) P Q .mk) .mk:=by
 cases x<;>simp
def kp(s:St)(dst:Option Nat)(K:St→Prop):D×Dl→Prop:=fun p=>K { s with env:=put s.env dst p.1,H:=p.2.app s.H (Al.last s.H) }
def kt(s:St)(dst:Option Nat)(R:List Fp)(Q:Rc→St→Prop):D×Dl→Prop:=fun p=>Q ⟨R,iy s.H.length p.2⟩ { s with env:=put s.env dst p.1,H:=p.2.app s.H (Al.last s.H) }
section
variable(T:gj)
def fw(f:FuncId)(args:List D)(dst:Option Nat)(s:St)(K:St→Prop)(_:Tag (dst,s,K)):Prop:=
 (∃ fn,T.fn f=some fn∧fn.full=false∧Wf T f (args.map (eZ (fun _=>none) s.H 40)) [] fun d Hn=>oA (after s dst args d Hn) K .mk) ∨
 (∃ fn,T.fn f=some fn∧fn.full=true∧Wf T f args s.H fun d H'=>K { s with env:=put s.env dst d,H:=H' })
def gZ(f:FuncId)(args:List D)(R:List Fp)(dst:Option Nat)(s:St)(Q:Rc→St→Prop)(_:Tag (dst,s,Q)):Prop:=
 ∃ fn d,T.fn f=some fn∧fn.full=false∧Wf T f (args.map (eZ (fun _=>none) s.H 40)) [] (fun d' Hn=>d'=d∧Hn = [])∧(if fy args then closed d else flat d)=true∧Q ⟨R,[]⟩ { s with env:=put s.env dst d }
def tJ(f:FuncId)(args:List D)(R:List Fp)(dst:Option Nat)(s:St)(Q:Rc→St→Prop)(t:Tag (dst,s,Q)):Prop:=
 gZ T f args R dst s Q t∨∃ fn d ob,T.fn f=some fn∧fn.full=false∧Wf T f (args.map (eZ (fun _=>none) s.H 40)) [] (fun d' Hn=>d'=d∧Hn = [ob]) ∧
  (if fy args then kW d&&l9 ob else mN d&&nk ob)=true∧Q ⟨R,[(s.H.length,none)]⟩ { s with env:=put s.env dst (iX s.H.length d),H:=s.H ++ [ob] }
def qx(f:FuncId)(args:List D)(R:List Fp)(dst:Option Nat)(s:St)(Q:Rc→St→Prop)(t:Tag (dst,s,Q)):Prop:=
 tJ T f args R dst s Q t∨∃ fn d v,T.fn f=some fn∧fn.full=false∧(∀ u∈(args.map (gh s.H 40)).flatten,u=v)∧v∈(args.map (gh s.H 40)).flatten∧(rowsOf s.H v).isSome=true ∧
  fy (args.map (eZ (fun _=>none) s.H 40))=true∧Wf T f (args.map (eZ (fun _=>none) s.H 40)) [] (fun d' Hn=>d'=d∧Hn = [])∧closed d=true∧Q ⟨R,[(v,none)]⟩ { s with env:=put s.env dst d,H:=s.H.set v .dead }
def wN(v rf:Nat)(dst:Option Nat)(s:St)(K:St→Prop):gA:=fun o=>∃ jo,o.st.H[v]? = some (.gg rf jo .busy)∧K { s with env:=put s.env dst (.b !o.stop),H:=o.st.H.set v (.gg rf jo o.uR) }
def nJ(v:Nat)(args:List D)(dst:Option Nat)(s:St)(K:St→Prop)(_:Tag (dst,s,K)):Prop:=
 ∃ rf env0 Rd,s.H[v]? = some (.gg rf env0 .ready)∧T.round rf=some Rd∧args.length=Rd.params.length ∧
  Wc T Rd.a { env:=pS Rd.params args env0,H:=s.H,fG:=true } fun o=>∃ s1 jw,o = .norm s1∧s1.H[v]? = some (.gg rf jw .ready)∧Wc T Rd.b { s1 with H:=s1.H.set v (.gg rf jw .busy) } (wN v rf dst s K)
def ru(d:D)(args:List D)(dst:Option Nat)(s:St)(K:St→Prop)(t:Tag (dst,s,K)):Prop:=
 match d with
 | .gP v=>nJ T v args dst s K t
 | d=>oA (EB args d) (fun p=>fw T p.1 p.2 dst s K t) .mk
def qw(x:D)(dst:Option Nat)(s:St)(K:St→Prop)(_:Tag (dst,s,K)):Prop:=
 ∃ v m since seen kk es,x = .ptr v 0 0∧s.H[v]? = some (.jd (.omap m) since seen)∧s.H[m]? = some (.map kk es)∧es.length=since ∧
  ((∀ i,i<es.length→i∈seen)→K { s with env:=put s.env dst (.tup [.b false]) }) ∧
  (∀ i k d,es[i]? = some (k,d)→i ∉ seen→K { s with env:=put s.env dst (.tup [.b true,.val k,d]),H:=s.H.set v (.jd (.omap m) since (seen ++ [i])) })
def gK(op:gC)(dst:Option Nat)(s:St)(K:St→Prop):Prop:=
 match op with
 | .call f args=>fw T f (args.map (ev s.env.get)) dst s K .mk
 | .callN f args=>fw T f (args.map (ev s.env.get)) dst s K .mk
 | .callv f args=>ru T (ev s.env.get f) (args.map (ev s.env.get)) dst s K .mk
 | .nilS a b=>oA (kY s.env.get s.H s.H.length (.nilS a b)) (kp s dst K) .mk
 | .capE a=>oA (kY s.env.get s.H s.H.length (.capE a)) (kp s dst K) .mk
 | .appZ a b c d e f=>oA (kY s.env.get s.H s.H.length (.appZ a b c d e f)) (kp s dst K) .mk
 | .clr a b c=>oA (kY s.env.get s.H s.H.length (.clr a b c)) (kp s dst K) .mk
 | .rangeS a=>oA (kY s.env.get s.H s.H.length (.rangeS a)) (kp s dst K) .mk
 | .nextS a=>oA (kY s.env.get s.H s.H.length (.nextS a)) (kp s dst K) .mk
 | .rangeM a=>oA (kY s.env.get s.H s.H.length (.rangeM a)) (kp s dst K) .mk
 | .entry a=>oA (kY s.env.get s.H s.H.length (.entry a)) (kp s dst K) .mk
 | .nextM a=>qw (ev s.env.get a) dst s K .mk
 | op=>oA (fH s.env.get s.H s.H.length op) (kp s dst K) .mk
def iE(op:gC)(dst:Option Nat)(s:St)(Q:Rc→St→Prop):Prop:=
 match op with
 | .call f args=>gZ T f (args.map (ev s.env.get)) (fJ s.env.get s.H (.call f args)) dst s Q .mk
 | .callN f args=>qx T f (args.map (ev s.env.get)) (fJ s.env.get s.H (.callN f args)) dst s Q .mk
 | .callv f args=>oA (iW s.env.get (.callv f args)) (fun p=>gZ T p.1 p.2 (fJ s.env.get s.H (.callv f args)) dst s Q .mk) .mk
 | op=>oA (fH s.env.get s.H s.H.length op) (kt s dst (fJ s.env.get s.H op) Q) .mk
def XO:List fC→St→(St→Prop)→Prop
 | [],s,K=>K s
 | e::r,s,K=>XG (guardOf s.env.get e.guard) (gK T e.op e.dst s fun s'=>XO r s' K) (XO r { s with env:=put s.env e.dst (.val undef) } K) .mk
def XT:List fC→St→(List Rc→St→Prop)→Prop
 | [],s,K=>K [] s
 | e::r,s,K=>XG (guardOf s.env.get e.guard) (iE T e.op e.dst s fun rc s'=>XT r s' fun rs s2=>K (rc::rs) s2) (XT r { s with env:=put s.env e.dst (.val undef) } fun rs s2=>K (⟨[],[]⟩::rs) s2) .mk
end
section
variable{T:gj}
theorem Kr{α:Type}{x:Option α}{P Q:α→Prop}{t:Tag P}{u:Tag Q}(h:oA x P t)(hi:∀ a,P a→Q a):oA x Q u:=by
 obtain⟨a,h1,h2⟩:=h;exact⟨a,h1,hi a h2⟩
theorem fw.mono{f:FuncId}{args:List D}{dst:Option Nat}{s:St}{K K':St→Prop}{t:Tag (dst,s,K)}{u:Tag (dst,s,K')}(h:fw T f args dst s K t)(hi:∀ s,K s→K' s):fw T f args dst s K' u:=by
 rcases h with⟨fn,hf,hp,h⟩|⟨fn,hf,hp,h⟩
 ·exact .inl ⟨fn,hf,hp,Wf.mono h fun d Hn h=>Kr h hi⟩
 ·exact .inr ⟨fn,hf,hp,Wf.mono h fun d H h=>hi _ h⟩
theorem nJ.mono{v:Nat}{args:List D}{dst:Option Nat}{s:St}{K K':St→Prop}{t:Tag (dst,s,K)}{u:Tag (dst,s,K')}(h:nJ T v args dst s K t)(hi:∀ s,K s→K' s):nJ T v args dst s K' u:=by
 obtain⟨rf,env0,Rd,hv,hR,hl,h⟩:=h
 exact⟨rf,env0,Rd,hv,hR,hl,h.mono fun o ⟨s1,jw,he,h1,h2⟩=>⟨s1,jw,he,h1,h2.mono fun o ⟨jo,h3,h4⟩=>⟨jo,h3,hi _ h4⟩⟩⟩
theorem ru.mono{d:D}{args:List D}{dst:Option Nat}{s:St}{K K':St→Prop}{t:Tag (dst,s,K)}{u:Tag (dst,s,K')}(h:ru T d args dst s K t)(hi:∀ s,K s→K' s):ru T d args dst s K' u:=by
 unfold ru at h ⊢
 split at h
 ·exact nJ.mono h hi
 ·exact Kr h fun p hp=>fw.mono hp hi
theorem qw.mono{x:D}{dst:Option Nat}{s:St}{K K':St→Prop}{t:Tag (dst,s,K)}{u:Tag (dst,s,K')}(h:qw x dst s K t)(hi:∀ s,K s→K' s):qw x dst s K' u:=by
 obtain⟨v,m,since,seen,kk,es,h1,h2,h3,h4,h5,h6⟩:=h
 exact⟨v,m,since,seen,kk,es,h1,h2,h3,h4,fun h=>hi _ (h5 h),fun i k d e1 e2=>hi _ (h6 i k d e1 e2)⟩
theorem gK.mono{op:gC}{dst:Option Nat}{s:St}{K K':St→Prop}(h:gK T op dst s K)(hi:∀ s,K s→K' s):gK T op dst s K':=by
 unfold gK at h ⊢
 split at h<;>first
  | exact fw.mono h hi
  | exact ru.mono h hi
  | exact qw.mono h hi
  | exact Kr h fun p hp=>hi _ hp
theorem XO.mono:∀ {l:List fC} {s:St} {K K':St→Prop},XO T l s K→(∀ s,K s→K' s)→XO T l s K'
 | [],s,K,K',h,hi=>hi s h
 | e::r,s,K,K',h,hi=>by
  obtain⟨x,hg,ht,hf⟩:=h
  exact⟨x,hg,fun e=>gK.mono (ht e) fun s' h=>XO.mono h hi,fun e=>XO.mono (hf e) hi⟩
theorem fw.wo{f:FuncId}{args:List D}{s:St}{K:St→Prop}{e:fC}{r:List fC}(hg:guardOf s.env.get e.guard=some true)(hc:iW s.env.get e.op=some (f,args))(h:fw T f args e.dst s (fun s'=>Wo T r s' K) .mk):Wo T (e::r) s K:=by
 rcases h with⟨fn,hf,hp,h⟩|⟨fn,hf,hp,h⟩
 ·refine Ev.zG hg hc hf hp h (fun d Hn hd=>?_) fun d Hn s' hd fW=>?_
  ·obtain⟨d',H',he,s',hs,hk⟩:=hd
   cases he;rw[hs];rfl
  ·obtain⟨d',H',he,s2,hs,hk⟩:=hd
   cases he
   rw[hs]at fW;cases fW
   exact hk
 ·exact Ev.zF hg hc hf hp h fun d H' hd=>by
   obtain⟨d',H2,he,hk⟩:=hd
   cases he;exact hk
theorem XO.sj{l2:List fC}{K:St→Prop}:∀ {l:List fC} {s:St},XO T l s (fun s'=>Wo T l2 s' K)→Wo T (l++l2) s K
 | [],s,h=>h
 | e::r,s,h=>by
  obtain⟨x,hg,ht,hf⟩:=h
  cases x with
  | false=>exact Wo.off hg (XO.sj (hf rfl))
  | true=>
   have h:=ht rfl
   have plain:oA (fH s.env.get s.H s.H.length e.op) (kp s e.dst fun s'=>XO T r s' fun s'=>Wo T l2 s' K) .mk→Wo T (e::r++l2) s K:=fun⟨⟨d,δ⟩,hd,hk⟩=>Wo.op hg hd (XO.sj hk)
   have sp:oA (kY s.env.get s.H s.H.length e.op) (kp s e.dst fun s'=>XO T r s' fun s'=>Wo T l2 s' K) .mk→Wo T (e::r++l2) s K:=fun⟨⟨d,δ⟩,hd,hk⟩=>Wo.wU hg hd (XO.sj hk)
   have call:∀ f args,iW s.env.get e.op=some (f,args)→fw T f args e.dst s (fun s'=>XO T r s' fun s'=>Wo T l2 s' K) .mk→Wo T (e::r++l2) s K:=fun f args hc hx=>by
    refine fw.wo hg hc ?_
    rcases hx with⟨fn,hf,hp,h⟩|⟨fn,hf,hp,h⟩
    ·exact .inl ⟨fn,hf,hp,Wf.mono h fun d Hn ⟨s',h1,h2⟩=>⟨s',h1,XO.sj h2⟩⟩
    ·exact .inr ⟨fn,hf,hp,Wf.mono h fun d Hn h1=>XO.sj h1⟩
   unfold gK at h
   split at h
   case h_1 f args he=>exact call _ _ (by rw[he];rfl) h
   case h_2 f args he=>exact call _ _ (by rw[he];rfl) h
   case h_3 f args he=>
    unfold ru at h
    split at h
    ·rename_i v hv
     obtain⟨rf,env0,Rd,nA,hR,hl,h⟩:=h
     have hy:yieldOf s.env.get e.op=some (v,args.map (ev s.env.get)):=by rw[he];simp only[yieldOf,hv]
     refine Ev.EA hg hy nA hR hl h (fun o ⟨o',e1,s1,jw,e2,h1,h2⟩=>?_) (Rb:=PO (wN v rf e.dst s fun s'=>XO T r s' fun s'=>Wo T l2 s' K)) (fun s1 jw ⟨o',e1,s2,jo,e2,h1,h2⟩ h3=>?_) (fun o ⟨o',e1,jo,h1,h2⟩=>?_) fun o jo ⟨o',e1,aiS,h1,h2⟩ h3=>?_
     ·cases e1;subst e2;exact⟨rfl,jw,h1⟩
     ·cases e1;cases e2
      rw[h1]at h3;cases h3;exact h2
     ·cases e1;exact⟨jo,h1⟩
     ·cases e1
      rw[h1]at h3;cases h3
      exact XO.sj h2
    ·rename_i hn
     obtain⟨p,hp,h⟩:=h
     exact call p.1 p.2 (by rw[he,Sg];exact hp) h
   case h_12 a he=>
    obtain⟨v,m,since,seen,kk,es,h1,h2,h3,h4,h5,h6⟩:=h
    exact Ev.next hg he h1 h2 h3 h4 (fun k=>XO.sj (h5 k)) fun i k d e1 e2=>XO.sj (h6 i k d e1 e2)
   case h_13=>exact plain h
   all_goals (rename_i he;exact sp (by rw[he];exact h))
theorem XO.wo{l:List fC}{s:St}{K:St→Prop}(h:XO T l s K):Wo T l s K:=by
 have:=XO.sj (l2:=[]) (K:=K) (XO.mono h fun s' k=>Wo.nil k)
 rwa [aw]at this
theorem XT.wt:∀ {l:List fC} {s:St} {K:List Rc→St→Prop},XT T l s K→Wt T l s K
 | [],s,K,h=>Wt.nil h
 | e::r,s,K,h=>by
  obtain⟨x,hg,ht,hf⟩:=h
  cases x with
  | false=>exact Wt.off hg (XT.wt (hf rfl))
  | true=>
   have h:=ht rfl
   have call:∀ f args,iW s.env.get e.op=some (f,args)→gZ T f args (fJ s.env.get s.H e.op) e.dst s (fun rc s'=>XT T r s' fun rs s2=>K (rc::rs) s2) .mk→Wt T (e::r) s K:=fun f args hc ⟨fn,d,hf,hp,hw,fQ,hk⟩=>
    Ev.BW hg hc hf hp hw (fun d' Hn ⟨d2,H2,he,hd⟩=>by cases he;exact hd) fQ (XT.wt hk) fun rs s' ⟨QP,s2,he,k⟩=>by cases he;exact⟨_,_,rfl,k⟩
   unfold iE at h
   split at h
   case h_1 f args he=>exact call _ _ (by rw[he];rfl) (by rw[he];exact h)
   case h_2 f args he=>
    rcases h with(h|⟨fn,d,ob,hf,hp,hw,fQ,hk⟩)|⟨fn,d,v,hf,hp,hS,hv,gf,fQ,hw,hr,hk⟩
    ·exact call _ _ (by rw[he];rfl) (by rw[he];exact h)
    ·exact Ev.BX hg he rfl hf hp hw (fun d' Hn ⟨d2,H2,he,hd⟩=>by cases he;exact hd) fQ (XT.wt hk) fun rs s' ⟨QP,s2,e2,k⟩=>by cases e2;rw[he];exact⟨_,_,rfl,k⟩
    ·exact Ev.BY hg he rfl hf hp hS hv gf fQ hw (fun d' Hn ⟨d2,H2,he,hd⟩=>by cases he;exact hd) hr (XT.wt hk) fun rs s' ⟨QP,s2,e2,k⟩=>by cases e2;rw[he];exact⟨_,_,rfl,k⟩
   case h_3 f args he=>obtain⟨p,hp,h⟩:=h;exact call p.1 p.2 (by rw[he];exact hp) (by rw[he];exact h)
   case h_4=>obtain⟨⟨d,δ⟩,hd,hk⟩:=h;exact Wt.op hg hd (XT.wt hk)
end
def jm:IR→IR
 | .seq a b=>.seq (jm a) (jm b)
 | .cond c a b=>.cond c (jm a) (jm b)
 | .block id live a=>.block id live (jm a)
 | .loop live a=>.loop live (jm a)
 | .fz _ a=>jm a
 | .qE _ a b=>.ops (a++b)
 | c=>c
def pO:IR→Bool
 | .seq a b=>pO a&&pO b
 | .cond _ a b=>pO a&&pO b
 | .block _ _ a=>pO a
 | .loop _ a=>pO a
 | .fz _ _=>false
 | .qE _ _ _=>false
 | _=>true
theorem lJ:∀ {c:IR},pO c=true→jm c=c
 | .seq a b,h=>by simp only[pO,ah]at h;rw[jm,lJ h.1,lJ h.2]
 | .cond _ a b,h=>by simp only[pO,ah]at h;rw[jm,lJ h.1,lJ h.2]
 | .block _ _ a,h=>by rw[jm,lJ (c:=a) h]
 | .loop _ a,h=>by rw[jm,lJ (c:=a) h]
 | .fz _ _,h=>by cases h
 | .qE _ _ _,h=>by cases h
 | .skip,_ | .ops _,_ | .draw _ _,_ | .kF _ _ _,_ | .kX _ _ _,_ | .exit _,_ | .ret,_ | .bad,_=>rfl
def ky(k:Nat):List fC→Bool
 | { dst:=some j,.. }::_=>decide (j=k)
 | _=>false
def gY(k:Nat)(S:List Nat):IR→IR
 | .ops l=>bif ky k l then .fz S (.ops l)else .ops l
 | .draw p l=>bif ky k l then .fz S (.draw p l)else .draw p l
 | .kF p l e=>bif ky k l then .fz S (.kF p l e)else .kF p l e
 | .seq a b=>.seq (gY k S a) (gY k S b)
 | .cond c a b=>.cond c (gY k S a) (gY k S b)
 | .block id live a=>.block id live (gY k S a)
 | .loop live a=>.loop live (gY k S a)
 | .fz S' a=>.fz S' (gY k S a)
 | c=>c
theorem uW(k:Nat)(S:List Nat):∀ c:IR,jm (gY k S c)=jm c
 | .ops l=>by unfold gY;cases ky k l<;>rfl
 | .draw p l=>by unfold gY;cases ky k l<;>rfl
 | .kF p l e=>by unfold gY;cases ky k l<;>rfl
 | .seq a b=>by simp only[gY,jm,uW k S a,uW k S b]
 | .cond c a b=>by simp only[gY,jm,uW k S a,uW k S b]
 | .block id live a=>by simp only[gY,jm,uW k S a]
 | .loop live a=>by simp only[gY,jm,uW k S a]
 | .fz S' a=>by simp only[gY,jm,uW k S a]
 | .skip | .kX _ _ _ | .exit _ | .ret | .bad | .qE _ _ _=>rfl
def lW(k:Nat):List fC→List fC
 | []=>[]
 | e::r=>bif ky k [e]then []else e::lW k r
def lX(k:Nat):List fC→List fC
 | []=>[]
 | e::r=>bif ky k [e]then e::r else lX k r
def me(k:Nat):List fC→Bool
 | []=>false
 | e::r=>ky k [e]||me k r
theorem Ml(k:Nat):∀ l:List fC,lW k l++lX k l=l
 | []=>rfl
 | e::r=>by unfold lW lX;cases ky k [e]<;>simp[Ml k r]
def jc(k:Nat)(S:List Nat):IR→IR
 | .ops l=>bif me k l then .qE S (lW k l) (lX k l)else .ops l
 | .seq a b=>.seq (jc k S a) (jc k S b)
 | .cond c a b=>.cond c (jc k S a) (jc k S b)
 | .block id live a=>.block id live (jc k S a)
 | .loop live a=>.loop live (jc k S a)
 | .fz S' a=>.fz S' (jc k S a)
 | c=>c
theorem uX(k:Nat)(S:List Nat):∀ c:IR,jm (jc k S c)=jm c
 | .ops l=>by unfold jc;cases me k l<;>simp[jm,Ml]
 | .seq a b=>by simp only[jc,jm,uX k S a,uX k S b]
 | .cond c a b=>by simp only[jc,jm,uX k S a,uX k S b]
 | .block id live a=>by simp only[jc,jm,uX k S a]
 | .loop live a=>by simp only[jc,jm,uX k S a]
 | .fz S' a=>by simp only[jc,jm,uX k S a]
 | .skip | .kX _ _ _ | .exit _ | .ret | .bad | .qE _ _ _ | .draw _ _ | .kF _ _ _=>rfl
def fe(T:gj)(live:List Nat)(a:IR)(s:St)(K:gA)(_:Tag (live,a,s,K)):Prop:=Wc T (.loop live (jm a)) s K
def pY(T:gj)(rf:Nat)(live:List Nat)(x:X)(s:St)(K:gA)(_:Tag (live,x,s,K)):Prop:=Wc T (.kX rf live x) s K
@[irreducible] def rZ(m S:List Nat):Bool:=m.all fun v => !S.contains v
theorem Bc(m S:List Nat):rZ m S=m.all fun v => !S.contains v:=by unfold rZ;rfl
@[simp] theorem PC(S:List Nat):rZ [] S=true:=by rw[Bc];rfl
@[simp] theorem ak0(v:Nat)(m S:List Nat):rZ (v::m) S=(!decide (v∈S)&&rZ m S):=by rw[Bc,Bc,List.all_cons,dR]
def HA:D→List Nat
 | .agg cs=>(cs.map (gG 0)).flatten
 | _=>[]
@[simp] theorem agN(cs:List D):HA (.agg cs)=(cs.map (gG 0)).flatten:=rfl
def np(env:Env):List Nat→List Nat
 | []=>[]
 | v::r=>if v<1000 then v::np env r else if v<2000 then gG 0 (env.get (v-1000))++np env r else HA (env.get (v-2000))++np env r
@[simp] theorem ajv(env:Env):np env [] = []:=rfl
@[simp] theorem aju(env:Env)(v:Nat)(r:List Nat):np env (v::r)=if v<1000 then v::np env r else if v<2000 then gG 0 (env.get (v-1000))++np env r else HA (env.get (v-2000))++np env r:=rfl
def XC(T:gj):IR→St→gA→Prop
 | .skip,s,K=>K (.norm s)
 | .ops l,s,K=>XO T l s fun s'=>K (.norm s')
 | .draw im l,s,K=>XT T l s fun rs s'=>qX im rs=true∧K (.norm s')
 | .kF im l es,s,K=>XT T l s fun rs s'=>qX im rs=true∧XO T es s' fun s'=>K (.norm s')
 | .seq a b,s,K=>XC T a s fun o=>match o with
  | .norm s'=>XC T b s' K
  | o=>K o
 | .cond c a b,s,K=>XB (ev s.env.get c) (XC T a s K) (XC T b s K) .mk
 | .block id live a,s,K=>XC T a s fun o=>K (k8 id s.H.length live o)
 | .loop live a,s,K=>fe T live a s K .mk
 | .kX rf live x,s,K=>pY T rf live x s K .mk
 | .exit id,s,K=>K (.exit id s)
 | .ret,s,K=>K (.ret s)
 | .bad,_,_=>False
 | .fz S a,s,K=>rZ s.marks (np s.env S)=true∧XC T a (jx (np s.env S) s) K
 | .qE S a b,s,K=>XO T a s fun s'=>rZ s'.marks (np s'.env S)=true∧XO T b (jx (np s'.env S) s') fun s'=>K (.norm s')
def GF(T:gj)(b:IR)(K:gA):gA:=fun o=>match o with
 | .norm s'=>XC T b s' K
 | o=>K o
def qy(id n:Nat)(live:List Nat)(K:gA):gA:=fun o=>K (k8 id n live o)
section
variable{T:gj}
theorem Wc.jx{c:IR}{s:St}{K:gA}(S:List Nat)(hm:rZ s.marks S=true)(h:Wc T c (jx S s) K):Wc T c s K:=Ev.Ab S (by rwa [Bc]at hm) h
theorem XC.wc:∀ {c:IR} {s:St} {K:gA},XC T c s K→Wc T (jm c) s K
 | .skip,s,K,h=>Wc.skip h
 | .ops l,s,K,h=>Wc.ops (XO.wo h)
 | .draw im l,s,K,h=>Wc.draw (XT.wt h)
 | .kF im l es,s,K,h=>Wc.kF (Ev.mono (XT.wt h) fun _ ⟨rs,s',q,k⟩=>⟨rs,s',q,k.1,XO.wo k.2⟩)
 | .seq a b,s,K,h=>Wc.seq ((XC.wc (c:=a) h).mono fun o ho=>by
  cases o with
  | norm s'=>exact XC.wc (c:=b) ho
  | exit=>exact ho
  | ret=>exact ho)
 | .cond _ _ _,_,_,h=>by
  obtain⟨x,hx,ht,hf⟩:=h
  exact Wc.cond x hx (fun e=>XC.wc (ht e)) fun e=>XC.wc (hf e)
 | .block _ _ _,_,_,h=>Wc.block (XC.wc h)
 | .loop live a,s,K,h=>h
 | .kX rf live x,s,K,h=>h
 | .exit id,s,K,h=>Wc.exit h
 | .ret,s,K,h=>Wc.ret h
 | .bad,s,K,h=>h.elim
 | .fz S a,s,K,h=>Wc.jx (np s.env S) h.1 (XC.wc (c:=a) h.2)
 | .qE S a b,s,K,h=>Wc.ops (XO.sj (XO.mono h fun s' k=>Ev.jx (np s'.env S) (by have:=k.1;rwa [Bc]at this) (XO.wo k.2)))
def qp(ds:List D):D:=match ds with
 | [d]=>d
 | ds=>.tup ds
@[simp] theorem amL(d:D):qp [d]=d:=rfl
@[simp] theorem amM(d e:D):qp [d,e] = .tup [d,e]:=rfl
@[simp] theorem amN(d e f:D):qp [d,e,f] = .tup [d,e,f]:=rfl
@[simp] theorem amK:qp [] = .tup []:=rfl
def ub(rs:List rp)(own n:Nat)(K:D→U→Prop):gA:=fun o=>match o with
 | .norm s | .ret s=>oA (kill s.marks s.H) (fun H=>oA (qq { s with H:=H } rs) (fun ds=>K (leave own n H (qp ds)).1 (leave own n H (qp ds)).2) .mk) .mk
 | .exit _ _=>False
theorem Wf.xz(own:Nat){f:FuncId}{args:List D}{H:U}{fn:eW}{K:D→U→Prop}(c:IR)(hf:T.fn f=some fn)(hl:args.length≤fn.ntmps)(hc:jm c=fn.body)
  (h:XC T c { env:=pL args,H:=H } (ub fn.results own H.length K)):Wf T f args H K:=by
 have key:∀ s:St,(oA (kill s.marks s.H) (fun H'=>oA (qq { s with H:=H' } fn.results) (fun ds=>K (leave own H.length H' (qp ds)).1 (leave own H.length H' (qp ds)).2) .mk) .mk)→∃ d H',(match kill s.marks s.H with
  | some H1=>match results fn { s with H:=H1 }with
   | some d=>some (leave own H.length H1 d)
   | none=>none
  | none=>none)=some (d,H')∧K d H':=by
  rintro s ⟨H1,h1,ds,h2,hk⟩
  rw[h1]
  refine⟨_,_,?_,hk⟩
  unfold AL.results
  dsimp only
  rw[h2]
  cases ds with
  | nil=>rfl
  | cons a l=>cases l<;>rfl
 refine Wf.call own hf hl (hc▸(XC.wc h).mono fun o ho=>?_)
 cases o with
 | norm s=>exact key s ho
 | ret s=>exact key s ho
 | exit=>exact ho.elim
theorem Wf.xo(own:Nat){f:FuncId}{args:List D}{H:U}{fn:eW}{K:D→U→Prop}(hf:T.fn f=some fn)(hl:args.length≤fn.ntmps)
  (h:XC T fn.body { env:=pL args,H:=H } (ub fn.results own H.length K)) (hz:pO fn.body=true:=by rfl):Wf T f args H K:=Wf.xz own fn.body hf hl (lJ hz) h
theorem Wf.x{f:FuncId}{args:List D}{H:U}{fn:eW}{K:D→U→Prop}(hf:T.fn f=some fn)(hl:args.length≤fn.ntmps)
  (h:XC T fn.body { env:=pL args,H:=H } (ub fn.results fn.own H.length K)) (hz:pO fn.body=true:=by rfl):Wf T f args H K:=Wf.xo fn.own hf hl h hz
theorem fw.is{f:FuncId}{args:List D}{dst:Option Nat}{s:St}{K:St→Prop}{fn:eW}{K0:D→U→Prop}(hf:T.fn f=some fn)(hp:fn.full=false)(h:Wf T f (args.map (eZ (fun _=>none) s.H 40)) [] K0)
  (k:∀ d Hn,K0 d Hn→oA (after s dst args d Hn) K .mk):fw T f args dst s K .mk:=.inl ⟨fn,hf,hp,Wf.mono h k⟩
theorem fw.nC{f:FuncId}{args:List D}{dst:Option Nat}{s:St}{K:St→Prop}{fn:eW}{K0:D→U→Prop}(hf:T.fn f=some fn)(hp:fn.full=true)(h:Wf T f args s.H K0)
  (k:∀ d H',K0 d H'→K { s with env:=put s.env dst d,H:=H' }):fw T f args dst s K .mk:=.inr ⟨fn,hf,hp,Wf.mono h k⟩
theorem fw.c{f:FuncId}{args:List D}{dst:Option Nat}{s:St}{K:St→Prop}{fn:eW}{x:D}(hf:T.fn f=some fn)(hp:fn.full=false)(h:Wf T f args [] fun d H'=>d=x∧H' = [])
  (hc:fy args=true) (hx:closed x=true) (k:K { s with env:=put s.env dst x }):fw T f args dst s K .mk:=by
 refine fw.is hf hp (K0:=fun d H'=>d=x∧H' = []) ?_ ?_
 ·have e0:args.map (eZ (fun _=>none) s.H 40)=args:=by
   conv=>rhs;rw[← aT args]
   exact aj fun d hd=>lI (kE hc d hd)
  rw[e0];exact h
 ·rintro d Hn ⟨rfl,rfl⟩
  obtain⟨k1,k2⟩:=zM (H:=s.H) hx
  refine⟨{ s with env:=put s.env dst d },?_,k⟩
  unfold after
  rw[if_pos hc,k1,k2]
  simp
theorem fw.r{f:FuncId}{args ng:List D}{dst:Option Nat}{s:St}{K:St→Prop}{fn:eW}{x:D}(hf:T.fn f=some fn)(hp:fn.full=false)(h:Wf T f ng [] fun d H'=>d=x∧H' = [])
  (hs:args.map (eZ (fun _=>none) s.H 40)=ng) (hx:flat x=true) (kf:closed x=true) (k:K { s with env:=put s.env dst x }):fw T f args dst s K .mk:=by
 refine fw.is hf hp (K0:=fun d H'=>d=x∧H' = []) (by rw[hs];exact h) ?_
 rintro d Hn ⟨rfl,rfl⟩
 obtain⟨k1,k2⟩:=zM (H:=s.H) kf
 refine⟨{ s with env:=put s.env dst d },?_,k⟩
 have:mN d=true:=(Iz (H:=s.H) hx).1
 unfold after
 rw[this,k1,k2]
 simp
theorem gZ.c{f:FuncId}{args:List D}{R:List Fp}{dst:Option Nat}{s:St}{Q:Rc→St→Prop}{fn:eW}{x:D}(hf:T.fn f=some fn)(hp:fn.full=false)(h:Wf T f args [] fun d H'=>d=x∧H' = [])
  (hc:fy args=true) (hx:closed x=true) (k:Q ⟨R,[]⟩ { s with env:=put s.env dst x }):gZ T f args R dst s Q .mk:=by
 refine⟨fn,x,hf,hp,?_,by rw[if_pos hc];exact hx,k⟩
 have e0:args.map (eZ (fun _=>none) s.H 40)=args:=by
  conv=>rhs;rw[← aT args]
  exact aj fun d hd=>lI (kE hc d hd)
 rw[e0];exact h
theorem gZ.r{f:FuncId}{args ng:List D}{R:List Fp}{dst:Option Nat}{s:St}{Q:Rc→St→Prop}{fn:eW}{x:D}(hf:T.fn f=some fn)(hp:fn.full=false)(h:Wf T f ng [] fun d H'=>d=x∧H' = [])
  (hs:args.map (eZ (fun _=>none) s.H 40)=ng) (hx:flat x=true) (kf:closed x=true) (k:Q ⟨R,[]⟩ { s with env:=put s.env dst x }):gZ T f args R dst s Q .mk:=
 ⟨fn,x,hf,hp,by rw[hs];exact h,by split<;>assumption,k⟩
variable{s:St}{K:gA}{a b:IR}{l:List fC}{op:gC}{k j:Nat}
@[simp ↓] theorem ae9:XC T .skip s K=K (.norm s):=(rfl)
@[simp ↓] theorem ae5:XC T (.ops l) s K=XO T l s fun s'=>K (.norm s'):=(rfl)
@[simp ↓] theorem aeZ{im:List (Nat×Nat)}:XC T (.draw im l) s K=XT T l s fun rs s'=>qX im rs=true∧K (.norm s'):=(rfl)
@[simp ↓] theorem ae0{im:List (Nat×Nat)}{es:List fC}:XC T (.kF im l es) s K=XT T l s fun rs s'=>qX im rs=true∧XO T es s' fun s'=>K (.norm s'):=(rfl)
@[simp ↓] theorem ae8:XC T (.seq a b) s K=XC T a s (GF T b K):=(rfl)
@[simp ↓] theorem aeY{c:X}:XC T (.cond c a b) s K=XB (ev s.env.get c) (XC T a s K) (XC T b s K) .mk:=(rfl)
@[simp ↓] theorem aeX{id:Nat}{live:List Nat}:XC T (.block id live a) s K=XC T a s (qy id s.H.length live K):=(rfl)
@[simp ↓] theorem ae4{live:List Nat}:XC T (.loop live a) s K=fe T live a s K .mk:=(rfl)
@[simp ↓] theorem ae6{rf:Nat}{live:List Nat}{x:X}:XC T (.kX rf live x) s K=pY T rf live x s K .mk:=(rfl)
@[simp ↓] theorem ae2{S:List Nat}:XC T (.fz S a) s K=(rZ s.marks (np s.env S)=true∧XC T a (jx (np s.env S) s) K):=(rfl)
@[simp ↓] theorem ae3{S:List Nat}{x y:List fC}:XC T (.qE S x y) s K=XO T x s fun s'=>rZ s'.marks (np s'.env S)=true∧XO T y (jx (np s'.env S) s') fun s'=>K (.norm s'):=(rfl)
@[simp ↓] theorem ae1{id:Nat}:XC T (.exit id) s K=K (.exit id s):=(rfl)
@[simp ↓] theorem ae7:XC T .ret s K=K (.ret s):=(rfl)
@[simp ↓] theorem alc:GF T b K (.norm s)=XC T b s K:=(rfl)
@[simp ↓] theorem alb{id:Nat}:GF T b K (.exit id s)=K (.exit id s):=(rfl)
@[simp ↓] theorem ald:GF T b K (.ret s)=K (.ret s):=(rfl)
@[simp ↓] theorem xp{id n:Nat}{live:List Nat}:qy id n live K (.norm s)=K (.norm (cut n live s)):=(rfl)
@[simp ↓] theorem ahp{id n:Nat}{live:List Nat}:qy id n live K (.ret s)=K (.ret s):=(rfl)
@[simp ↓] theorem Es{id n:Nat}{live:List Nat}:qy id n live K (.exit id s)=K (.norm (cut n live s)):=by simp[qy,k8]
@[simp ↓] theorem aho{id uE n:Nat}{live:List Nat}(h:uE≠id):qy id n live K (.exit uE s)=K (.exit uE s):=by simp[qy,k8,h]
@[simp ↓] theorem ai9{rs:List rp}{own n:Nat}{K:D→U→Prop}:ub rs own n K (.ret s)=oA (kill s.marks s.H) (fun H=>oA (qq { s with H:=H } rs) (fun ds=>K (leave own n H (qp ds)).1 (leave own n H (qp ds)).2) .mk) .mk:=(rfl)
@[simp ↓] theorem ai8{rs:List rp}{own n:Nat}{K:D→U→Prop}:ub rs own n K (.norm s)=oA (kill s.marks s.H) (fun H=>oA (qq { s with H:=H } rs) (fun ds=>K (leave own n H (qp ds)).1 (leave own n H (qp ds)).2) .mk) .mk:=(rfl)
@[simp ↓] theorem afg{K:St→Prop}:XO T [] s K=K s:=(rfl)
@[simp ↓] theorem afh{K:St→Prop}:XO T (o k op::l) s K=gK T op (some k) s fun s'=>XO T l s' K:=by
 simp[XO,guardOf]
@[simp ↓] theorem afj{K:St→Prop}:XO T (u op::l) s K=gK T op none s fun s'=>XO T l s' K:=by
 simp[XO,guardOf]
@[simp ↓] theorem afi{g:Bool}{K:St→Prop}:XO T (og j g k op::l) s K=XG (guardOf s.env.get (some (j,g))) (gK T op (some k) s fun s'=>XO T l s' K) (XO T l { s with env:=(k,.val undef)::s.env } K) .mk:=(rfl)
@[simp ↓] theorem afk{g:Bool}{K:St→Prop}:XO T (ug j g op::l) s K=XG (guardOf s.env.get (some (j,g))) (gK T op none s fun s'=>XO T l s' K) (XO T l s K) .mk:=(rfl)
@[simp ↓] theorem af5{Q:List Rc→St→Prop}:XT T [] s Q=Q [] s:=(rfl)
@[simp ↓] theorem af6{Q:List Rc→St→Prop}:XT T (o k op::l) s Q=iE T op (some k) s fun rc s'=>XT T l s' fun rs s2=>Q (rc::rs) s2:=by
 simp[XT,guardOf]
@[simp ↓] theorem af8{Q:List Rc→St→Prop}:XT T (u op::l) s Q=iE T op none s fun rc s'=>XT T l s' fun rs s2=>Q (rc::rs) s2:=by
 simp[XT,guardOf]
@[simp ↓] theorem af7{g:Bool}{Q:List Rc→St→Prop}:XT T (og j g k op::l) s Q=XG (guardOf s.env.get (some (j,g))) (iE T op (some k) s fun rc s'=>XT T l s' fun rs s2=>Q (rc::rs) s2) (XT T l { s with env:=(k,.val undef)::s.env } fun rs s2=>Q (⟨[],[]⟩::rs) s2) .mk:=(rfl)
@[simp ↓] theorem af9{g:Bool}{Q:List Rc→St→Prop}:XT T (ug j g op::l) s Q=XG (guardOf s.env.get (some (j,g))) (iE T op none s fun rc s'=>XT T l s' fun rs s2=>Q (rc::rs) s2) (XT T l s fun rs s2=>Q (⟨[],[]⟩::rs) s2) .mk:=(rfl)
@[simp ↓] theorem akk{dst:Option Nat}{K:St→Prop}{d:D}{δ:Dl}:kp s dst K (d,δ)=K { s with env:=put s.env dst d,H:=δ.app s.H (Al.last s.H) }:=(rfl)
@[simp ↓] theorem akl{dst:Option Nat}{R:List Fp}{Q:Rc→St→Prop}{d:D}{δ:Dl}:kt s dst R Q (d,δ)=Q ⟨R,iy s.H.length δ⟩ { s with env:=put s.env dst d,H:=δ.app s.H (Al.last s.H) }:=(rfl)
section
variable{dst:Option Nat}{K:St→Prop}{Q:Rc→St→Prop}
@[simp ↓] theorem afS{x:X}:gK T (.mv x) dst s K=oA (fH s.env.get s.H s.H.length (.mv x)) (kp s dst K) .mk:=(rfl)
@[simp ↓] theorem agF{x:X}:iE T (.mv x) dst s Q=oA (fH s.env.get s.H s.H.length (.mv x)) (kt s dst (fJ s.env.get s.H (.mv x)) Q) .mk:=(rfl)
@[simp ↓] theorem afX{c a b:X}:gK T (.pick c a b) dst s K=oA (fH s.env.get s.H s.H.length (.pick c a b)) (kp s dst K) .mk:=(rfl)
@[simp ↓] theorem agH{c a b:X}:iE T (.pick c a b) dst s Q=oA (fH s.env.get s.H s.H.length (.pick c a b)) (kt s dst (fJ s.env.get s.H (.pick c a b)) Q) .mk:=(rfl)
@[simp ↓] theorem afq{t:TypeId}{x:X}:gK T (.box t x) dst s K=oA (fH s.env.get s.H s.H.length (.box t x)) (kp s dst K) .mk:=(rfl)
@[simp ↓] theorem age{t:TypeId}{x:X}:iE T (.box t x) dst s Q=oA (fH s.env.get s.H s.H.length (.box t x)) (kt s dst (fJ s.env.get s.H (.box t x)) Q) .mk:=(rfl)
@[simp ↓] theorem afl{t:TypeId}{z:List D}:gK T (.alloc t z) dst s K=oA (fH s.env.get s.H s.H.length (.alloc t z)) (kp s dst K) .mk:=(rfl)
@[simp ↓] theorem aga{t:TypeId}{z:List D}:iE T (.alloc t z) dst s Q=oA (fH s.env.get s.H s.H.length (.alloc t z)) (kt s dst (fJ s.env.get s.H (.alloc t z)) Q) .mk:=(rfl)
@[simp ↓] theorem afr{z:List D}{ps:List (Nat×Nat×X)}:gK T (.build z ps) dst s K=oA (fH s.env.get s.H s.H.length (.build z ps)) (kp s dst K) .mk:=(rfl)
@[simp ↓] theorem agf{z:List D}{ps:List (Nat×Nat×X)}:iE T (.build z ps) dst s Q=oA (fH s.env.get s.H s.H.length (.build z ps)) (kt s dst (fJ s.env.get s.H (.build z ps)) Q) .mk:=(rfl)
@[simp ↓] theorem afs{t sz:Nat}{z:List D}{n:Nat}{ps:List (Nat×X)}:gK T (.buildSl t sz z n ps) dst s K=oA (fH s.env.get s.H s.H.length (.buildSl t sz z n ps)) (kp s dst K) .mk:=(rfl)
@[simp ↓] theorem agh{t sz:Nat}{z:List D}{n:Nat}{ps:List (Nat×X)}:iE T (.buildSl t sz z n ps) dst s Q=oA (fH s.env.get s.H s.H.length (.buildSl t sz z n ps)) (kt s dst (fJ s.env.get s.H (.buildSl t sz z n ps)) Q) .mk:=(rfl)
@[simp ↓] theorem afJ{x:X}:gK T (.ld1 x) dst s K=oA (fH s.env.get s.H s.H.length (.ld1 x)) (kp s dst K) .mk:=(rfl)
@[simp ↓] theorem agw{x:X}:iE T (.ld1 x) dst s Q=oA (fH s.env.get s.H s.H.length (.ld1 x)) (kt s dst (fJ s.env.get s.H (.ld1 x)) Q) .mk:=(rfl)
@[simp ↓] theorem afK{n:Nat}{x:X}:gK T (.ldN n x) dst s K=oA (fH s.env.get s.H s.H.length (.ldN n x)) (kp s dst K) .mk:=(rfl)
@[simp ↓] theorem agx{n:Nat}{x:X}:iE T (.ldN n x) dst s Q=oA (fH s.env.get s.H s.H.length (.ldN n x)) (kt s dst (fJ s.env.get s.H (.ldN n x)) Q) .mk:=(rfl)
@[simp ↓] theorem af2{a x:X}:gK T (.st1 a x) dst s K=oA (fH s.env.get s.H s.H.length (.st1 a x)) (kp s dst K) .mk:=(rfl)
@[simp ↓] theorem agK{a x:X}:iE T (.st1 a x) dst s Q=oA (fH s.env.get s.H s.H.length (.st1 a x)) (kt s dst (fJ s.env.get s.H (.st1 a x)) Q) .mk:=(rfl)
@[simp ↓] theorem af3{n:Nat}{a x:X}:gK T (.stN n a x) dst s K=oA (fH s.env.get s.H s.H.length (.stN n a x)) (kp s dst K) .mk:=(rfl)
@[simp ↓] theorem agL{n:Nat}{a x:X}:iE T (.stN n a x) dst s Q=oA (fH s.env.get s.H s.H.length (.stN n a x)) (kt s dst (fJ s.env.get s.H (.stN n a x)) Q) .mk:=(rfl)
@[simp ↓] theorem afW{x:X}:gK T (.nilck x) dst s K=oA (fH s.env.get s.H s.H.length (.nilck x)) (kp s dst K) .mk:=(rfl)
@[simp ↓] theorem agG{x:X}:iE T (.nilck x) dst s Q=oA (fH s.env.get s.H s.H.length (.nilck x)) (kt s dst (fJ s.env.get s.H (.nilck x)) Q) .mk:=(rfl)
@[simp ↓] theorem afo{op:BinOp}{x y:X}:gK T (.arith op x y) dst s K=oA (fH s.env.get s.H s.H.length (.arith op x y)) (kp s dst K) .mk:=(rfl)
@[simp ↓] theorem agc{op:BinOp}{x y:X}:iE T (.arith op x y) dst s Q=oA (fH s.env.get s.H s.H.length (.arith op x y)) (kt s dst (fJ s.env.get s.H (.arith op x y)) Q) .mk:=(rfl)
@[simp ↓] theorem afB{iq:Bool}{ls:List mR}{neg:Bool}{x y:X}:gK T (.eqS iq ls neg x y) dst s K=oA (fH s.env.get s.H s.H.length (.eqS iq ls neg x y)) (kp s dst K) .mk:=(rfl)
@[simp ↓] theorem agn{iq:Bool}{ls:List mR}{neg:Bool}{x y:X}:iE T (.eqS iq ls neg x y) dst s Q=oA (fH s.env.get s.H s.H.length (.eqS iq ls neg x y)) (kt s dst (fJ s.env.get s.H (.eqS iq ls neg x y)) Q) .mk:=(rfl)
@[simp ↓] theorem af4{op:UnOp}{x:X}:gK T (.un op x) dst s K=oA (fH s.env.get s.H s.H.length (.un op x)) (kp s dst K) .mk:=(rfl)
@[simp ↓] theorem agM{op:UnOp}{x:X}:iE T (.un op x) dst s Q=oA (fH s.env.get s.H s.H.length (.un op x)) (kt s dst (fJ s.env.get s.H (.un op x)) Q) .mk:=(rfl)
@[simp ↓] theorem afy{k:IntKind}{x:X}:gK T (.conv k x) dst s K=oA (fH s.env.get s.H s.H.length (.conv k x)) (kp s dst K) .mk:=(rfl)
@[simp ↓] theorem agl{k:IntKind}{x:X}:iE T (.conv k x) dst s Q=oA (fH s.env.get s.H s.H.length (.conv k x)) (kt s dst (fJ s.env.get s.H (.conv k x)) Q) .mk:=(rfl)
@[simp ↓] theorem afp{x:X}:gK T (.b2s x) dst s K=oA (fH s.env.get s.H s.H.length (.b2s x)) (kp s dst K) .mk:=(rfl)
@[simp ↓] theorem agd{x:X}:iE T (.b2s x) dst s Q=oA (fH s.env.get s.H s.H.length (.b2s x)) (kt s dst (fJ s.env.get s.H (.b2s x)) Q) .mk:=(rfl)
@[simp ↓] theorem afP{fn:Fn}{first captured:List X}:gK T (.mkfn fn first captured) dst s K=oA (fH s.env.get s.H s.H.length (.mkfn fn first captured)) (kp s dst K) .mk:=(rfl)
@[simp ↓] theorem agC{fn:Fn}{first captured:List X}:iE T (.mkfn fn first captured) dst s Q=oA (fH s.env.get s.H s.H.length (.mkfn fn first captured)) (kt s dst (fJ s.env.get s.H (.mkfn fn first captured)) Q) .mk:=(rfl)
@[simp ↓] theorem afQ{kk:KK}:gK T (.mkmap kk) dst s K=oA (fH s.env.get s.H s.H.length (.mkmap kk)) (kp s dst K) .mk:=(rfl)
@[simp ↓] theorem agD{kk:KK}:iE T (.mkmap kk) dst s Q=oA (fH s.env.get s.H s.H.length (.mkmap kk)) (kt s dst (fJ s.env.get s.H (.mkmap kk)) Q) .mk:=(rfl)
@[simp ↓] theorem afR{t sz bytes:Nat}{z:List D}{l c:X}:gK T (.mksl t sz bytes z l c) dst s K=oA (fH s.env.get s.H s.H.length (.mksl t sz bytes z l c)) (kp s dst K) .mk:=(rfl)
@[simp ↓] theorem agE{t sz bytes:Nat}{z:List D}{l c:X}:iE T (.mksl t sz bytes z l c) dst s Q=oA (fH s.env.get s.H s.H.length (.mksl t sz bytes z l c)) (kt s dst (fJ s.env.get s.H (.mksl t sz bytes z l c)) Q) .mk:=(rfl)
@[simp ↓] theorem af0{sz:Nat}{x:X}{lo hi:Option X}:gK T (.slc sz x lo hi) dst s K=oA (fH s.env.get s.H s.H.length (.slc sz x lo hi)) (kp s dst K) .mk:=(rfl)
@[simp ↓] theorem agI{sz:Nat}{x:X}{lo hi:Option X}:iE T (.slc sz x lo hi) dst s Q=oA (fH s.env.get s.H s.H.length (.slc sz x lo hi)) (kt s dst (fJ s.env.get s.H (.slc sz x lo hi)) Q) .mk:=(rfl)
@[simp ↓] theorem af1{x:X}{lo hi:Option X}:gK T (.slcS x lo hi) dst s K=oA (fH s.env.get s.H s.H.length (.slcS x lo hi)) (kp s dst K) .mk:=(rfl)
@[simp ↓] theorem agJ{x:X}{lo hi:Option X}:iE T (.slcS x lo hi) dst s Q=oA (fH s.env.get s.H s.H.length (.slcS x lo hi)) (kt s dst (fJ s.env.get s.H (.slcS x lo hi)) Q) .mk:=(rfl)
@[simp ↓] theorem afE{off:Nat}{x:X}:gK T (.fieldA off x) dst s K=oA (fH s.env.get s.H s.H.length (.fieldA off x)) (kp s dst K) .mk:=(rfl)
@[simp ↓] theorem agq{off:Nat}{x:X}:iE T (.fieldA off x) dst s Q=oA (fH s.env.get s.H s.H.length (.fieldA off x)) (kt s dst (fJ s.env.get s.H (.fieldA off x)) Q) .mk:=(rfl)
@[simp ↓] theorem afD{off n:Nat}{iq:Bool}{x:X}:gK T (.field off n iq x) dst s K=oA (fH s.env.get s.H s.H.length (.field off n iq x)) (kp s dst K) .mk:=(rfl)
@[simp ↓] theorem agp{off n:Nat}{iq:Bool}{x:X}:iE T (.field off n iq x) dst s Q=oA (fH s.env.get s.H s.H.length (.field off n iq x)) (kt s dst (fJ s.env.get s.H (.field off n iq x)) Q) .mk:=(rfl)
@[simp ↓] theorem afG{sz:Nat}{x i:X}:gK T (.idxA sz x i) dst s K=oA (fH s.env.get s.H s.H.length (.idxA sz x i)) (kp s dst K) .mk:=(rfl)
@[simp ↓] theorem agt{sz:Nat}{x i:X}:iE T (.idxA sz x i) dst s Q=oA (fH s.env.get s.H s.H.length (.idxA sz x i)) (kt s dst (fJ s.env.get s.H (.idxA sz x i)) Q) .mk:=(rfl)
@[simp ↓] theorem afH{sz n:Nat}{x i:X}:gK T (.idxArr sz n x i) dst s K=oA (fH s.env.get s.H s.H.length (.idxArr sz n x i)) (kp s dst K) .mk:=(rfl)
@[simp ↓] theorem agu{sz n:Nat}{x i:X}:iE T (.idxArr sz n x i) dst s Q=oA (fH s.env.get s.H s.H.length (.idxArr sz n x i)) (kt s dst (fJ s.env.get s.H (.idxArr sz n x i)) Q) .mk:=(rfl)
@[simp ↓] theorem afF{sz n:Nat}{iq:Bool}{x i:X}:gK T (.idx sz n iq x i) dst s K=oA (fH s.env.get s.H s.H.length (.idx sz n iq x i)) (kp s dst K) .mk:=(rfl)
@[simp ↓] theorem ags{sz n:Nat}{iq:Bool}{x i:X}:iE T (.idx sz n iq x i) dst s Q=oA (fH s.env.get s.H s.H.length (.idx sz n iq x i)) (kt s dst (fJ s.env.get s.H (.idx sz n iq x i)) Q) .mk:=(rfl)
@[simp ↓] theorem afI{x i:X}:gK T (.idxStr x i) dst s K=oA (fH s.env.get s.H s.H.length (.idxStr x i)) (kp s dst K) .mk:=(rfl)
@[simp ↓] theorem agv{x i:X}:iE T (.idxStr x i) dst s Q=oA (fH s.env.get s.H s.H.length (.idxStr x i)) (kt s dst (fJ s.env.get s.H (.idxStr x i)) Q) .mk:=(rfl)
@[simp ↓] theorem afM{kk:KK}{z:D}{ok:Bool}{m k:X}:gK T (.lookup kk z ok m k) dst s K=oA (fH s.env.get s.H s.H.length (.lookup kk z ok m k)) (kp s dst K) .mk:=(rfl)
@[simp ↓] theorem agz{kk:KK}{z:D}{ok:Bool}{m k:X}:iE T (.lookup kk z ok m k) dst s Q=oA (fH s.env.get s.H s.H.length (.lookup kk z ok m k)) (kt s dst (fJ s.env.get s.H (.lookup kk z ok m k)) Q) .mk:=(rfl)
@[simp ↓] theorem afN{kk:KK}{m k v:X}:gK T (.mapUpd kk m k v) dst s K=oA (fH s.env.get s.H s.H.length (.mapUpd kk m k v)) (kp s dst K) .mk:=(rfl)
@[simp ↓] theorem agA{kk:KK}{m k v:X}:iE T (.mapUpd kk m k v) dst s Q=oA (fH s.env.get s.H s.H.length (.mapUpd kk m k v)) (kt s dst (fJ s.env.get s.H (.mapUpd kk m k v)) Q) .mk:=(rfl)
@[simp ↓] theorem afC{x:X}{i:Nat}:gK T (.ext x i) dst s K=oA (fH s.env.get s.H s.H.length (.ext x i)) (kp s dst K) .mk:=(rfl)
@[simp ↓] theorem ago{x:X}{i:Nat}:iE T (.ext x i) dst s Q=oA (fH s.env.get s.H s.H.length (.ext x i)) (kt s dst (fJ s.env.get s.H (.ext x i)) Q) .mk:=(rfl)
@[simp ↓] theorem aft{f:FuncId}{args:List X}:gK T (.call f args) dst s K=fw T f (args.map (ev s.env.get)) dst s K .mk:=(rfl)
@[simp ↓] theorem agi{f:FuncId}{args:List X}:iE T (.call f args) dst s Q=gZ T f (args.map (ev s.env.get)) (fJ s.env.get s.H (.call f args)) dst s Q .mk:=(rfl)
@[simp ↓] theorem afu{f:FuncId}{args:List X}:gK T (.callN f args) dst s K=fw T f (args.map (ev s.env.get)) dst s K .mk:=(rfl)
@[simp ↓] theorem agj{f:FuncId}{args:List X}:iE T (.callN f args) dst s Q=qx T f (args.map (ev s.env.get)) (fJ s.env.get s.H (.callN f args)) dst s Q .mk:=(rfl)
@[simp ↓] theorem afv{f:X}{args:List X}:gK T (.callv f args) dst s K=ru T (ev s.env.get f) (args.map (ev s.env.get)) dst s K .mk:=(rfl)
@[simp] theorem afa{k:FuncId}{first cap args:List D}:ru T (.fn (.func k) first cap) args dst s K .mk=fw T k (first++args++cap) dst s K .mk:=by
 show oA (some (k,first++args++cap)) (fun p=>fw T p.1 p.2 dst s K .mk) .mk=_
 simp only[wH]
@[simp] theorem afb{v:Nat}{args:List D}:ru T (.gP v) args dst s K .mk=nJ T v args dst s K .mk:=(rfl)
@[simp ↓] theorem agk{f:X}{args:List X}:iE T (.callv f args) dst s Q=oA (iW s.env.get (.callv f args)) (fun p=>gZ T p.1 p.2 (fJ s.env.get s.H (.callv f args)) dst s Q .mk) .mk:=(rfl)
@[simp ↓] theorem afm{t sz bytes:Nat}{x y:X}:gK T (.app t sz bytes x y) dst s K=oA (fH s.env.get s.H s.H.length (.app t sz bytes x y)) (kp s dst K) .mk:=(rfl)
@[simp ↓] theorem agb{t sz bytes:Nat}{x y:X}:iE T (.app t sz bytes x y) dst s Q=oA (fH s.env.get s.H s.H.length (.app t sz bytes x y)) (kt s dst (fJ s.env.get s.H (.app t sz bytes x y)) Q) .mk:=(rfl)
@[simp ↓] theorem afz{sz:Nat}{x y:X}:gK T (.copy sz x y) dst s K=oA (fH s.env.get s.H s.H.length (.copy sz x y)) (kp s dst K) .mk:=(rfl)
@[simp ↓] theorem agm{sz:Nat}{x y:X}:iE T (.copy sz x y) dst s Q=oA (fH s.env.get s.H s.H.length (.copy sz x y)) (kt s dst (fJ s.env.get s.H (.copy sz x y)) Q) .mk:=(rfl)
@[simp ↓] theorem afL{k:vc}{x:X}:gK T (.len k x) dst s K=oA (fH s.env.get s.H s.H.length (.len k x)) (kp s dst K) .mk:=(rfl)
@[simp ↓] theorem agy{k:vc}{x:X}:iE T (.len k x) dst s Q=oA (fH s.env.get s.H s.H.length (.len k x)) (kt s dst (fJ s.env.get s.H (.len k x)) Q) .mk:=(rfl)
@[simp ↓] theorem afO{isMax:Bool}{xs:List X}:gK T (.minmax isMax xs) dst s K=oA (fH s.env.get s.H s.H.length (.minmax isMax xs)) (kp s dst K) .mk:=(rfl)
@[simp ↓] theorem agB{isMax:Bool}{xs:List X}:iE T (.minmax isMax xs) dst s Q=oA (fH s.env.get s.H s.H.length (.minmax isMax xs)) (kt s dst (fJ s.env.get s.H (.minmax isMax xs)) Q) .mk:=(rfl)
@[simp ↓] theorem afV{neg:Bool}{x:X}:gK T (.nilS neg x) dst s K=oA (kY s.env.get s.H s.H.length (.nilS neg x)) (kp s dst K) .mk:=(rfl)
@[simp ↓] theorem afw{x:X}:gK T (.capE x) dst s K=oA (kY s.env.get s.H s.H.length (.capE x)) (kp s dst K) .mk:=(rfl)
@[simp ↓] theorem afn{t sz bytes:Nat}{z:List D}{x n:X}:gK T (.appZ t sz bytes z x n) dst s K=oA (kY s.env.get s.H s.H.length (.appZ t sz bytes z x n)) (kp s dst K) .mk:=(rfl)
@[simp ↓] theorem afx{sz:Nat}{z:List D}{x:X}:gK T (.clr sz z x) dst s K=oA (kY s.env.get s.H s.H.length (.clr sz z x)) (kp s dst K) .mk:=(rfl)
@[simp ↓] theorem afZ{x:X}:gK T (.rangeS x) dst s K=oA (kY s.env.get s.H s.H.length (.rangeS x)) (kp s dst K) .mk:=(rfl)
@[simp ↓] theorem afU{x:X}:gK T (.nextS x) dst s K=oA (kY s.env.get s.H s.H.length (.nextS x)) (kp s dst K) .mk:=(rfl)
@[simp ↓] theorem afY{x:X}:gK T (.rangeM x) dst s K=oA (kY s.env.get s.H s.H.length (.rangeM x)) (kp s dst K) .mk:=(rfl)
@[simp ↓] theorem afT{x:X}:gK T (.nextM x) dst s K=qw (ev s.env.get x) dst s K .mk:=(rfl)
@[simp ↓] theorem afA{x:X}:gK T (.entry x) dst s K=oA (kY s.env.get s.H s.H.length (.entry x)) (kp s dst K) .mk:=(rfl)
end
end
def qT(n:Nat)(live keys:List Nat)(J:Env→U→List Nat→Bool→Prop)(K:gA):gA:=fun o=>match o with
 | .norm s=>J (forget keys (cut n live s).env) (cut n live s).H (cut n live s).marks (cut n live s).fG
 | o=>K o
@[simp ↓] theorem yl{n:Nat}{live keys:List Nat}{J:Env→U→List Nat→Bool→Prop}{K:gA}{s:St}:qT n live keys J K (.norm s)=J (forget keys (cut n live s).env) (cut n live s).H (cut n live s).marks (cut n live s).fG:=(rfl)
@[simp ↓] theorem akT{n:Nat}{live keys:List Nat}{J:Env→U→List Nat→Bool→Prop}{K:gA}{id:Nat}{s:St}:qT n live keys J K (.exit id s)=K (.exit id s):=(rfl)
@[simp ↓] theorem akU{n:Nat}{live keys:List Nat}{J:Env→U→List Nat→Bool→Prop}{K:gA}{s:St}:qT n live keys J K (.ret s)=K (.ret s):=(rfl)
theorem fe.i{T:gj}{live:List Nat}{a:IR}{s:St}{K:gA}{α:Type}(keys:List Nat)(nN:(keys.all fun k=>live.contains k)=true)(E:α→Env)(Hp:α→U)(P:α→Prop)(μ:α→Nat)(x0:α)
  (h0:P x0) (hE:forget keys s.env=E x0) (hH:s.H=Hp x0)
  (h:∀ x,P x→XC T a { env:=E x,H:=Hp x,marks:=s.marks,fG:=s.fG } (qT s.H.length live keys (fun e H m r=>∃ x',e=E x'∧H=Hp x'∧m=s.marks∧r=s.fG∧μ x'<μ x∧P x') K)):fe T live a s K .mk:=by
 refine Wc.loop (fun m s'=>∃ x,P x∧m=μ x∧({ s' with env:=forget keys s'.env }:St) = { env:=E x,H:=Hp x,marks:=s.marks,fG:=s.fG }) (μ x0) ⟨x0,h0,rfl,?_⟩ ?_
 ·dsimp only
  rw[ND nN,hE]
  rw[← hH]
 ·rintro m s' ⟨x,hP,rfl,he⟩
  refine Ev.Aa keys ?_
  rw[he]
  refine(XC.wc (h x hP)).mono fun o ho=>?_
  cases o with
  | norm wT=>
   obtain⟨x',h3,h4,h5,h6,h2,h1⟩:=ho
   refine⟨μ x',h2,x',h1,rfl,?_⟩
   rw[h3]
   generalize cut s.H.length live wT=q at *
   cases q
   simp_all
  | exit=>exact ho
  | ret=>exact ho
theorem fe.j{T:gj}{live:List Nat}{a:IR}{s:St}{K:gA}{α:Type}(x0:α)(E:α→Env)(Hp:α→U)(P:α→Prop)(μ:α→Nat)
  (h0:P x0) (hE:forget ((E x0).map (·.1)) s.env=E x0) (hH:s.H=Hp x0) (nN:(((E x0).map (·.1)).all fun k=>live.contains k)=true)
  (h:∀ x,P x→XC T a { env:=E x,H:=Hp x,marks:=s.marks,fG:=s.fG } (qT s.H.length live ((E x0).map (·.1)) (fun e H m r=>∃ x',e=E x'∧H=Hp x'∧m=s.marks∧r=s.fG∧μ x'<μ x∧P x') K)):fe T live a s K .mk:=
 fe.i ((E x0).map (·.1)) nN E Hp P μ x0 h0 hE hH h
@[simp] theorem aiM{n:Nat}{live:List Nat}{env:Env}{H:U}{m:List Nat}{r:Bool}(h:H.length≤n):cut n live { env:=env,H:=H,marks:=m,fG:=r } = { env:=forget live env,H:=H,marks:=m,fG:=r }:=xA h
def Is(x:D):D→U→Prop:=fun d Hn=>d=x∧Hn = []
@[simp] theorem aeM(x d:D)(H:U):Is x d H=(d=x∧H = []):=rfl
@[simp] theorem amk(x:Bool)(a b:D):wK (.b x) a b=some (cond x a b):=by cases x<;>rfl
@[simp] theorem alA(c:Bool)(a b d e:D)(P:D→Prop):oA (wK (bif c then a else b) d e) P .mk=X2 c (oA (wK a d e) P .mk) (oA (wK b d e) P .mk) .mk:=by cases c<;>simp
@[simp] theorem XI{n:Nat}{H:U}{d:D}(h:H.length≤n)(own:Nat):leave own n H d=(d,H):=by
 unfold leave;rw[if_pos h]
section
variable{P:D→Prop}{a b:Int}
@[simp] theorem alj:oA (iP .add .i64 a b) P .mk=(lR (a+b)∧P (.i (a+b))):=by simp only[iP,if_true];rw[yw,wH]
@[simp] theorem alF:oA (iP .sub .i64 a b) P .mk=(lR (a-b)∧P (.i (a-b))):=by simp only[iP,if_true];rw[yw,wH]
@[simp] theorem alz:oA (iP .mul .i64 a b) P .mk=(lR (a*b)∧P (.i (a*b))):=by simp only[iP,if_true];rw[yw,wH]
end
def uM(a b:Int):Int:=IntKind.i64.wrap (a.tdiv b)
def fi(a b:Int):Int:=a.tmod b
theorem oT{n:Int}(h:lR n):IntKind.i64.wrap n=n:=by
 unfold lR at h
 simp only[IntKind.wrap,IntKind.bits,IntKind.signed]
 simp
 omega
theorem yB{a b:Int}(h0:0≤a)(h1:a≤9223372036854775807)(hb:0<b):uM a b=a / b:=by
 unfold uM
 rw[Int.tdiv_eq_ediv_of_nonneg h0,oT]
 have h2:0≤a / b:=Int.ediv_nonneg h0 (by omega)
 have h3:a / b≤a:=Int.ediv_le_self b h0
 exact⟨by omega,by omega⟩
theorem jV{a b:Int}(h0:0≤a):fi a b=a % b:=Int.tmod_eq_emod_of_nonneg h0
section
variable{P:D→Prop}{a b:Int}{t:Tag P}
@[simp] theorem alB:oA (iP .quo .i64 a b) P t=(b≠0∧P (.i (uM a b))):=by
 cases t
 simp only[iP]
 by_cases h:b=0<;>simp[h,uM]
@[simp] theorem alD:oA (iP .rem .i64 a b) P t=(b≠0∧P (.i (fi a b))):=by
 cases t
 simp only[iP]
 by_cases h:b=0<;>simp[h,fi]
end
@[simp] theorem ajP(n:Int):lR n=(-9223372036854775808≤n∧n≤9223372036854775807):=rfl
def gt{α:Type}[Inhabited α](l:List α)(n:Int):α:=l.getD n.toNat default
theorem ff{α:Type}[Inhabited α]{l:List α}{n:Int}(h0:0≤n)(h:n<l.length):gt l n∈l:=by
 unfold gt
 rw[List.getD_eq_getElem?_getD,List.getElem?_eq_getElem (by omega),aV]
 exact bJ _
theorem nu{α:Type}[Inhabited α]{l:List α}{n:Int}(h0:0≤n)(h:n<l.length):gt l n=l[n.toNat]:=by
 unfold gt
 rw[List.getD_eq_getElem?_getD,List.getElem?_eq_getElem (by omega),aV]
theorem qG{α:Type}[Inhabited α]{l:List α}{n:Nat}(h:n<l.length):gt l n=l[n]:=nu (by omega) (by omega)
theorem gE{α:Type}[Inhabited α]{l:List α}{n:Int}(h0:0≤n)(h:n<l.length):l.take (n+1).toNat=l.take n.toNat ++ [gt l n]:=by
 rw[nu h0 h,← List.take_succ_eq_append_getElem (by omega)]
 congr 1;omega
theorem lB{α:Type}[Inhabited α]{l:List α}{n:Int}(h0:0≤n)(h:n<l.length):l.drop n.toNat=gt l n::l.drop (n.toNat+1):=by
 rw[nu h0 h];exact bT (by omega)
theorem qm{α:Type}[Inhabited α]{l:List α}{x:α}:x∈l↔∃ n:Int,0≤n∧n<l.length∧gt l n=x:=by
 constructor
 ·intro h
  obtain⟨i,hi,e⟩:=List.getElem_of_mem h
  exact⟨i,by omega,by omega,by rw[qG hi,e]⟩
 ·rintro⟨n,h0,h1,rfl⟩
  exact ff h0 h1
theorem js{α:Type}{l:List α}{n:Int}(h:(l.length:Int)≤n):l.take n.toNat=l:=aF (by omega)
section
variable{α:Type}[Inhabited α]{sz:Nat}{f:α→List D}{P:D→Prop}{k:IntKind}
theorem tg{l:List α}{n:Int}:oA (mL sz (.sl sz (l.map f)) (.val (.int k n))) P .mk=((0≤n∧n<l.length)∧P (.fh (f (gt l n)))):=by
 simp only[mL,List.length_map,true_and,yw,wH]
 refine propext ⟨fun⟨h,hp⟩=>⟨h,?_⟩,fun⟨h,hp⟩=>⟨h,?_⟩⟩
 ·rw[List.getD_eq_getElem?_getD,au,List.getElem?_eq_getElem (by omega),a8,aV]at hp
  unfold gt
  rw[List.getD_eq_getElem?_getD,List.getElem?_eq_getElem (by omega),aV]
  exact hp
 ·rw[List.getD_eq_getElem?_getD,au,List.getElem?_eq_getElem (by omega),a8,aV]
  unfold gt at hp
  rw[List.getD_eq_getElem?_getD,List.getElem?_eq_getElem (by omega),aV]at hp
  exact hp
@[simp] theorem alo{l:List α}{n:Int}:oA (mL sz (.sl sz (l.map f)) (.val (.int k n))) P .mk=((0≤n∧n<l.length)∧P (.fh (f (gt l n)))):=tg
@[simp] theorem aln{l:List Int}{n:Int}:oA (mL 1 (dI l) (.val (.int k n))) P .mk=((0≤n∧n<l.length)∧P (.fh [.i (gt l n)])):=by unfold dI;rw[tg,rC]
@[simp] theorem alu{l:List Pos}{n:Int}:oA (mL 5 (gb l) (.val (.int k n))) P .mk=((0≤n∧n<l.length)∧P (.fh (gt l n).cells)):=tg
@[simp] theorem als{l:List eY}{n:Int}:oA (mL 2 (gQ l) (.val (.int k n))) P .mk=((0≤n∧n<l.length)∧P (.fh [.i (gt l n).1,.i (gt l n).2])):=by unfold gQ;rw[tg,tY]
@[simp] theorem alq{l:List α}{n:Int}:oA (mL sz (dN sz f l) (.val (.int k n))) P .mk=((0≤n∧n<l.length)∧P (.fh (f (gt l n)))):=by
 cases l with
 | nil=>
  simp only[dN,mL,P0,cI]
  refine propext ⟨fun h=>h.elim,fun⟨h,_⟩=>?_⟩
  have:=h.1;have:=h.2;simp at this;omega
 | cons a l=>exact tg
end
def BM(H:U)(k:Nat)(ρ:Nat→Option Nat)(v g sz off n:Nat):Option Nat→D
 | some v'=>.eT v' g sz off n
 | none=>match rowAt H v g with
  | some (_,cs)=>if (off+n)*sz≤cs.length then .sl sz (chunks sz n ((cs.drop (off*sz)).map (eZ ρ H k)))else .any
  | none=>.any
@[simp] theorem BP(ρ:Nat→Option Nat)(H:U)(k v g sz off n:Nat):eZ ρ H (k+1) (.eT v g sz off n)=BM H k ρ v g sz off n (ρ v):=by
 rw[eZ,if_neg (by simp[closed])]
 unfold BM;rfl
@[simp] theorem QX(H:U)(k:Nat)(ρ:Nat→Option Nat)(v g sz off n v':Nat):BM H k ρ v g sz off n (some v') = .eT v' g sz off n:=rfl
def BN(H:U)(k:Nat)(ρ:Nat→Option Nat)(v g off:Nat):Option Nat→D
 | some v'=>.ptr v' g off
 | none=>match rowAt H v g with
  | some (_,cs)=>.fh ((cs.drop off).map (eZ ρ H k))
  | none=>.any
@[simp] theorem adO(ρ:Nat→Option Nat)(H:U)(k v g off:Nat):eZ ρ H (k+1) (.ptr v g off)=BN H k ρ v g off (ρ v):=by
 rw[eZ,if_neg (by simp[closed])]
 unfold BN;rfl
@[simp] theorem adI(H:U)(k:Nat)(ρ:Nat→Option Nat)(v g off v':Nat):BN H k ρ v g off (some v') = .ptr v' g off:=rfl
def G8:Option Nat→D
 | some v'=>.omap v'
 | none=>.any
@[simp] theorem adN(ρ:Nat→Option Nat)(H:U)(k v:Nat):eZ ρ H (k+1) (.omap v)=G8 (ρ v):=by
 rw[eZ,if_neg (by simp[closed])]
 unfold G8;rfl
@[simp] theorem adH(v:Nat):G8 (some v) = .omap v:=rfl
@[simp] theorem am0:G8 none = .any:=rfl
@[simp] theorem ana{ρ:Nat→Option Nat}{H:U}{k:Nat}{d:D}(h:closed d=true):eZ ρ H k d=d:=lI h
@[simp] theorem aim(cs:List D):closed (.agg cs)=fy cs:=by simp only[closed]
@[simp] theorem aiF(cs:List D):closed (.tup cs)=fy cs:=by simp only[closed]
@[simp] theorem aiz(cs:List D):closed (.fh cs)=fy cs:=by simp only[closed]
@[simp] theorem aiG(v:Value):closed (.val v)=true:=by simp only[closed]
@[simp] theorem aiy:closed .emp=true:=by simp only[closed]
@[simp] theorem HU(f:Fn)(a b:List D):closed (.fn f a b)=(fy a&&fy b):=by simp only[closed]
@[simp] theorem aiD(v g sz off n:Nat):closed (.eT v g sz off n)=false:=by simp only[closed]
@[simp] theorem aiE(v g o:Nat):closed (.ptr v g o)=false:=by simp only[closed]
@[simp] theorem aiC(v:Nat):closed (.omap v)=false:=by simp only[closed]
@[simp] theorem aiH(v:Nat):closed (.gP v)=false:=by simp only[closed]
theorem wA{ρ:Nat→Option Nat}{H:U}{k:Nat}{cs:List D}(h:fy cs=true):cs.map (eZ ρ H k)=cs:=by
 conv=>rhs;rw[← aT cs]
 exact aj fun d hd=>lI (kE h d hd)
@[simp] theorem adL(ρ:Nat→Option Nat)(H:U)(k:Nat)(cs:List D):eZ ρ H (k+1) (.agg cs) = .agg (cs.map (eZ ρ H k)):=by
 by_cases h:closed (.agg cs)=true
 ·rw[lI h,wA (by simpa using h)]
 ·rw[eZ,if_neg h]
@[simp] theorem adQ(ρ:Nat→Option Nat)(H:U)(k:Nat)(cs:List D):eZ ρ H (k+1) (.tup cs) = .tup (cs.map (eZ ρ H k)):=by
 by_cases h:closed (.tup cs)=true
 ·rw[lI h,wA (by simpa using h)]
 ·rw[eZ,if_neg h]
@[simp] theorem anb(ρ:Nat→Option Nat)(H:U)(k:Nat)(c:Bool)(a b:D):eZ ρ H k (bif c then a else b)=bif c then eZ ρ H k a else eZ ρ H k b:=by cases c<;>rfl
theorem BO{ρ:Nat→Option Nat}{H:U}{k:Nat}{cs:List D}(h:fy cs=true):cs.map (eZ ρ H (k+1))=cs:=by
 conv=>rhs;rw[← aT cs]
 exact aj fun d hd=>lI (kE h d hd)
theorem EF{α:Type}{sz:Nat}{f:α→List D}(hf:∀ a,(f a).length=sz):∀ l:List α,chunks sz l.length (l.map f).flatten=l.map f
 | []=>rfl
 | a::l=>by
  simp only[aG,chunks,List.map_cons,aN]
  rw[bn (by rw[hf];exact Nat.le_refl _),aF (by rw[hf];exact Nat.le_refl _),dT (by rw[hf];exact Nat.le_refl _),aZ (by rw[hf];exact Nat.le_refl _),aU,EF hf l]
theorem XR{α:Type}{sz:Nat}{f:α→List D}(hf:∀ a,(f a).length=sz)(l:List α):(l.map f).flatten.length=l.length*sz:=by
 induction l with
 | nil=>simp
 | cons a l ih=>simp only[List.map_cons,aN,ax,hf,ih,aG,bU];omega
theorem ME{a b:List D}:fy (a++b)=(fy a&&fy b):=by
 induction a with
 | nil=>rfl
 | cons d a ih=>simp only[bK,fy,ih,Bool.and_assoc]
theorem Sx{α:Type}{f:α→List D}(hf:∀ a,fy (f a)=true)(l:List α):fy (l.map f).flatten=true:=by
 induction l with
 | nil=>rfl
 | cons a l ih=>simp only[List.map_cons,aN,ME,hf,ih];rfl
class Fl {α:Type} (f:α→List D) (sz:outParam Nat):Prop where
 len:∀ a,(f a).length=sz
 cl:∀ a,fy (f a)=true
instance:Fl f1 1:=⟨fun _=>by simp,fun _=>by simp[fy]⟩
instance:Fl fB 1:=⟨fun _=>by simp,fun _=>by simp[fy]⟩
instance:Fl fS 2:=⟨fun _=>by simp,fun _=>by simp[fy]⟩
instance:Fl fP 1:=⟨fun _=>by simp,fun _=>by simp[fy]⟩
instance:Fl fI 1:=⟨fun _=>by simp,fun _=>by simp[fy]⟩
instance:Fl Pos.cells 5:=⟨fun _=>rfl,fun _=>by simp⟩
instance:Fl Kind.cells 3:=⟨fun _=>rfl,fun _=>by simp⟩
instance:Fl Clause.cells 4:=⟨fun _=>rfl,fun _=>by simp⟩
section
variable{α:Type}{f:α→List D}{sz:Nat}
@[simp] theorem Su:cl f [] = []:=by rw[l8];rfl
@[simp] theorem zJ(a b:List α):cl f a++cl f b=cl f (a++b):=by simp[l8]
theorem oZ(l:List α)(a:α):cl f l++f a=cl f (l ++ [a]):=by simp[l8]
theorem ni(l:List α)(a:α):cl f (a::l)=f a++cl f l:=by simp[l8]
variable [F:Fl f sz]
include F
@[simp] theorem zK(l:List α):(cl f l).length=l.length*sz:=by rw[l8];exact XR F.len l
theorem sH:∀ (l:List α) (n:Nat),(cl f l).take (n*sz)=cl f (l.take n)
 | [],n=>by simp
 | a::l,0=>by simp
 | a::l,n+1=>by
  rw[ni,cE,ni,← sH l n,bU,List.take_append,F.len,aF (by rw[F.len];omega)]
  congr 2;omega
theorem sG:∀ (l:List α) (n:Nat),(cl f l).drop (n*sz)=cl f (l.drop n)
 | [],n=>by simp
 | a::l,0=>by simp
 | a::l,n+1=>by
  rw[ni,List.drop_succ_cons,← sG l n,bU,List.drop_append,F.len,aZ (by rw[F.len];omega),aU]
  congr 1;omega
@[simp] theorem aii(l:List α):(cl f l).take (l.length*sz)=cl f l:=by rw[sH,dF]
@[simp] theorem p7(l:List α):fy (cl f l)=true:=by rw[l8];exact Sx F.cl l
@[simp] theorem aif{ρ:Nat→Option Nat}{H:U}(l:List α):(cl f l).map (eZ ρ H 40)=cl f l:=BO (p7 l)
@[simp] theorem HW{k:Nat}(l:List α):closed (.sl k (l.map f))=true:=by
 simp only[closed];exact xw F.cl l
theorem MC(l:List α)(n j:Nat)(hj:j<sz):(cl f l)[n*sz+j]? = (l[n]?).bind fun a=>(f a)[j]? := by
 have h:(cl f l)[n*sz+j]? = ((cl f l).drop (n*sz))[j]? := by rw[aB]
 rw[h,sG]
 by_cases hn:n<l.length
 ·rw[bT hn,ni,ag (by rw[F.len];exact hj),List.getElem?_eq_getElem hn];rfl
 ·have h2:l[n]? = none:=aI (Nat.le_of_not_lt hn)
  rw[aZ (Nat.le_of_not_lt hn),h2];simp
theorem Sv(l:List α)(n:Nat)(a:α)(h:n<l.length):(cl f l).take (n*sz)++f a++(cl f l).drop (n*sz+sz)=cl f (l.take n++a::l.drop (n+1)):=by
 rw[sH,← bU,sG,← zJ,ni,bt]
end
@[simp] theorem ah1(l:List Int)(n:Nat):(cl f1 l).take n=cl f1 (l.take n):=by simpa using sH (f:=f1) l n
@[simp] theorem ahZ(l:List Int)(n:Nat):(cl f1 l).drop n=cl f1 (l.drop n):=by simpa using sG (f:=f1) l n
@[simp] theorem ah0(l:List Int)(n:Int):cl f1 l ++ [.i n]=cl f1 (l ++ [n]):=by rw[← oZ,rC]
@[simp] theorem ah5(l:List (List Int))(x:List Int):cl fI l ++ [dI x]=cl fI (l ++ [x]):=by rw[← oZ,TP]
@[simp] theorem ah8(l:List (List eY))(x:List eY):cl fP l ++ [gQ x]=cl fP (l ++ [x]):=by rw[← oZ,TQ]
@[simp] theorem aia(l:List eY)(a b:Int):cl fS l ++ [.i a,.i b]=cl fS (l ++ [(a,b)]):=by rw[← oZ,tY]
@[simp] theorem ah9(l:List Pos)(a b c:List Int)(r q:Int):cl Pos.cells l ++ [dI a,dI b,dI c,.i r,.i q]=cl Pos.cells (l ++ [⟨a,b,c,r,q⟩]):=by rw[← oZ];rfl
@[simp] theorem aml(p:Pos):Pos.mk p.cs p.h0 p.h1 p.fq p.side=p:=rfl
@[simp] theorem alk{l:List Int}{n:Int}{P:D→Prop}:oA (cl f1 l)[n.toNat]? P .mk=(n.toNat<l.length∧P (.i (gt l n))):=by
 have h:=MC (f:=f1) l n.toNat 0 (by omega)
 simp only[Nat.mul_one,bS]at h
 rw[h]
 by_cases hn:n.toNat<l.length
 ·rw[List.getElem?_eq_getElem hn]
  have e:gt l n=l[n.toNat]:=by unfold gt;rw[List.getD_eq_getElem?_getD,List.getElem?_eq_getElem hn];rfl
  simp[hn,e]
 ·rw[aI (by omega)];simp[hn]
@[simp] theorem YK{α:Type}[Inhabited α]{f:α→List D}{sz:Nat}[F:Fl f sz]{l:List α}{t:TypeId}{n:Int}{P:D→Prop}(hz:0<sz):oA (uG sz (n.toNat*sz) (some (t,cl f l))) P .mk=(n.toNat<l.length∧P (.agg (f (gt l n)))):=by
 simp only[uG,zK,← bU]
 rw[yw,wH]
 have h:n.toNat.succ*sz≤l.length*sz↔n.toNat<l.length:=eB hz
 rw[h]
 refine propext ⟨fun⟨a,p⟩=>⟨a,?_⟩,fun⟨a,p⟩=>⟨a,?_⟩⟩
 ·have e:gt l n=l[n.toNat]:=by unfold gt;rw[List.getD_eq_getElem?_getD,List.getElem?_eq_getElem a];rfl
  rw[sG,bT a,ni,bn (by rw[F.len];exact Nat.le_refl _),aF (by rw[F.len];exact Nat.le_refl _),← e]at p
  exact p
 ·have e:gt l n=l[n.toNat]:=by unfold gt;rw[List.getD_eq_getElem?_getD,List.getElem?_eq_getElem a];rfl
  rw[sG,bT a,ni,bn (by rw[F.len];exact Nat.le_refl _),aF (by rw[F.len];exact Nat.le_refl _),← e]
  exact p
def lY(ρ:Nat→Option Nat)(H:U)(k sz off n:Nat):Option (TypeId×List D)→D
 | some (_,cs)=>if (off+n)*sz≤cs.length then .sl sz (chunks sz n ((cs.drop (off*sz)).map (eZ ρ H k)))else .any
 | none=>.any
@[simp] theorem KQ(H:U)(k:Nat)(ρ:Nat→Option Nat)(v g sz off n:Nat):BM H k ρ v g sz off n none=lY ρ H k sz off n (rowAt H v g):=by
 unfold BM lY;rfl
@[simp] theorem qF{α:Type}{f:α→List D}{sz:Nat}[F:Fl f sz]{ρ:Nat→Option Nat}{H:U}{k n:Nat}{t:TypeId}{l:List α}(h:n=l.length):lY ρ H (k+1) sz 0 n (some (t,cl f l)) = .sl sz (l.map f):=by
 subst h
 unfold lY
 dsimp only
 rw[zK,if_pos (by simp),cr,dZ,BO (p7 l),l8,EF F.len]
@[simp] theorem ajn{ρ:Nat→Option Nat}{H:U}{k sz:Nat}{p:TypeId×List D}:lY ρ H k sz 0 0 (some p) = .sl sz []:=by
 unfold lY;simp[chunks]
@[simp] theorem anv:D.sl 1 []=dI []:=by unfold dI;rfl
@[simp] theorem ajp{ρ:Nat→Option Nat}{H:U}{k:Nat}{t:TypeId}{n:Int}:lY ρ H (k+1) 1 0 1 (some (t,[.i n]))=dI [n]:=by
 have:=qF (f:=f1) (ρ:=ρ) (H:=H) (k:=k) (t:=t) (l:=[n]) (n:=1) rfl
 rw[l8]at this
 simp only[List.map_cons,List.map_nil,rC,aN,cT,aw]at this
 rw[this];unfold dI;simp only[List.map_cons,List.map_nil,rC]
@[simp] theorem ajr{ρ:Nat→Option Nat}{H:U}{k:Nat}{t:TypeId}{a b c:List Int}{r q:Int}:lY ρ H (k+1) 5 0 1 (some (t,[dI a,dI b,dI c,.i r,.i q]))=gb [⟨a,b,c,r,q⟩]:=by
 have h:=qF (f:=Pos.cells) (ρ:=ρ) (H:=H) (k:=k) (t:=t) (l:=[⟨a,b,c,r,q⟩]) (n:=1) rfl
 rw[l8]at h
 unfold gb;exact h
@[simp] theorem adT(l:List Int):D.sl 1 (l.map f1)=dI l:=by unfold dI;rfl
@[simp] theorem anB(l:List Pos):D.sl 5 (l.map Pos.cells)=gb l:=by unfold gb;rfl
@[simp] theorem adU(l:List eY):D.sl 2 (l.map fS)=gQ l:=by unfold gQ;rfl
def pk(ρ:Nat→Option Nat)(H:U):Option Ob→Ob
 | some o=>iL ρ H o
 | none=>.dead
@[simp] theorem am9(ρ:Nat→Option Nat)(H:U)(t g:Nat)(cs:List D):pk ρ H (some (.row t g cs)) = .row t g (cs.map (eZ ρ H 40)):=rfl
@[simp] theorem am6(ρ:Nat→Option Nat)(H:U)(kk:KK)(es:List (Value×D)):pk ρ H (some (.map kk es)) = .map kk (es.map fun x=>(x.1,eZ ρ H 40 x.2)):=rfl
@[simp] theorem am4(ρ:Nat→Option Nat)(H:U):pk ρ H (some .dead) = .dead:=rfl
@[simp] theorem am5(ρ:Nat→Option Nat)(H:U):pk ρ H (some .jv) = .jv:=rfl
@[simp] theorem am8(ρ:Nat→Option Nat)(H:U)(rf:Nat)(e:Env)(st:oV):pk ρ H (some (.gg rf e st)) = .gg rf (e.map fun x=>(x.1,eZ ρ H 40 x.2)) st:=rfl
def xy(env:Env)(H:U)(m:List Nat)(r:Bool)(ks:ki):St:={ env:=env.map fun p=>(p.1,eZ (fL ks) H 40 p.2),H:=ks.map fun p=>if p.2 then pk (fL ks) H H[p.1]? else .dead,marks:=m.map fun v=>(fL ks v).getD v,fG:=r }
def tl(n:Nat)(env:Env)(H:U)(m:List Nat):List Nat:=dedup (((env.map fun p=>gG n p.2).flatten++((H.take n).map (lU n)).flatten++m.filter (n≤·)).filter (· < H.length))
@[simp low] theorem pz{n:Nat}{live:List Nat}{env:Env}{H:U}{m:List Nat}{r:Bool}(h:¬ H.length≤n):cut n live { env:=env,H:=H,marks:=m,fG:=r }=xy (forget live env) H m r (gq n (tl n (forget live env) H m)):=by
 unfold cut xy tl
 dsimp only
 rw[if_neg h]
 rfl
@[simp] theorem ajT(K:List Nat):gq 0 K=K.map fun v=>(v,true):=rfl
@[simp] theorem ajU(K:List Nat):gq 1 K=(0,true)::K.map fun v=>(v,true):=rfl
@[simp] theorem Xt(K:List Nat):gq 2 K=(0,true)::(1,true)::K.map fun v=>(v,true):=rfl
@[simp] theorem aj9(K:List Nat):gq 3 K=(0,true)::(1,true)::(2,true)::K.map fun v=>(v,true):=rfl
@[simp] theorem aka(K:List Nat):gq 4 K=(0,true)::(1,true)::(2,true)::(3,true)::K.map fun v=>(v,true):=rfl
def uO(i:Nat):ki→Nat→Option Nat
 | [],_=>none
 | p::r,v=>if p.2&&p.1 == v then some i else uO (i+1) r v
theorem adk(ks:ki)(v:Nat):fL ks v=uO 0 ks v:=by
 have key:∀ (ks:ki) (i:Nat),uO i ks v=(ks.findIdx? (fun p=>p.2&&p.1 == v)).map (· + i):=by
  intro ks
  induction ks with
  | nil=>intro i;rfl
  | cons p r ih=>
   intro i
   rw[List.findIdx?_cons]
   unfold uO
   split
   ·simp
   ·rw[ih,Option.map_map]
    congr 1;funext x;simp;omega
 rw[key];simp[fL]
@[simp] theorem amR(v:Nat):fL [] v=none:=rfl
@[simp] theorem amQ(p:Nat×Bool)(r:ki)(v:Nat):fL (p::r) v=if (p.2&&p.1 == v)=true then some 0 else uO 1 r v:=by
 rw[adk];rfl
@[simp] theorem amP(i v:Nat):uO i [] v=none:=rfl
@[simp] theorem amO(i:Nat)(p:Nat×Bool)(r:ki)(v:Nat):uO i (p::r) v=if (p.2&&p.1 == v)=true then some i else uO (i+1) r v:=rfl
@[simp] theorem aiL(env:Env)(H:U)(m:List Nat)(r:Bool)(ks:ki):xy env H m r ks = { env:=env.map fun p=>(p.1,eZ (fL ks) H 40 p.2),H:=ks.map fun p=>if p.2 then pk (fL ks) H H[p.1]? else .dead,marks:=m.map fun v=>(fL ks v).getD v,fG:=r }:=rfl
@[simp] theorem amw(n:Nat)(env:Env)(H:U)(m:List Nat):tl n env H m=dedup (((env.map fun p=>gG n p.2).flatten++((H.take n).map (lU n)).flatten++m.filter (n≤·)).filter (· < H.length)):=rfl
@[simp] theorem aiO:dedup [] = []:=rfl
@[simp] theorem aiN(x:Nat)(r:List Nat):dedup (x::r)=if x∈r then dedup r else x::dedup r:=rfl
theorem Hr(n:Nat){d:D}(h:closed d=true):gG n d = []:=by
 cases d<;>first|rfl|cases h
@[simp] theorem aeu(n:Nat)(l:List Int):gG n (dI l) = []:=rfl
@[simp] theorem an2(n:Nat)(l:List Pos):gG n (gb l) = []:=rfl
@[simp] theorem an0(n:Nat)(p:Pos):gG n (dP p) = []:=rfl
@[simp] theorem an1(n:Nat)(l:List eY):gG n (gQ l) = []:=rfl
@[simp] theorem anX(n:Nat)(g:eU):gG n (dG g) = []:=rfl
@[simp] theorem anW(n:Nat)(g:eU):gG n g.ib = []:=rfl
@[simp] theorem anY{α:Type}(n sz:Nat)(f:α→List D)(l:List α):gG n (dN sz f l) = []:=by cases l<;>rfl
@[simp] theorem aoe(n:Nat)(v:Value):gG n (.val v) = []:=rfl
@[simp] theorem anV(n:Nat):gG n .any = []:=rfl
@[simp] theorem an5(n:Nat):gG n .emp = []:=rfl
@[simp] theorem anU(n:Nat)(cs:List D):gG n (.agg cs) = []:=rfl
@[simp] theorem aod(n:Nat)(cs:List D):gG n (.tup cs) = []:=rfl
@[simp] theorem an9(n:Nat)(cs:List D):gG n (.fh cs) = []:=rfl
@[simp] theorem aoc(n sz:Nat)(es:List (List D)):gG n (.sl sz es) = []:=rfl
@[simp] theorem an8(n:Nat)(f:Fn)(a b:List D):gG n (.fn f a b) = []:=rfl
@[simp] theorem K6(n v g sz off len:Nat):gG n (.eT v g sz off len)=if n≤v then [v]else []:=rfl
@[simp] theorem aob(n v g off:Nat):gG n (.ptr v g off)=if n≤v then [v]else []:=rfl
@[simp] theorem aoa(n v:Nat):gG n (.omap v)=if n≤v then [v]else []:=rfl
@[simp] theorem aof(n v:Nat):gG n (.gP v)=if n≤v then [v]else []:=rfl
theorem ac9(n:Nat){cs:List D}(h:fy cs=true):(cs.map (gG n)).flatten = []:=by
 induction cs with
 | nil=>rfl
 | cons d r ih=>
  simp only[fy,ah]at h
  simp[Hr n h.1,ih h.2]
@[simp] theorem aie(n:Nat){α:Type}{f:α→List D}{sz:Nat}[F:Fl f sz](l:List α):((cl f l).map (gG n)).flatten = []:=ac9 n (p7 l)
@[simp] theorem P2(n t g:Nat)(cs:List D):lU n (.row t g cs)=(cs.map (gG n)).flatten:=rfl
@[simp] theorem YL(n:Nat)(kk:KK)(es:List (Value×D)):lU n (.map kk es)=(es.map fun x=>gG n x.2).flatten:=rfl
@[simp] theorem alG(n:Nat):lU n .dead = []:=rfl
theorem XJ{H:U}{d:D}(h:H≠[]):leave 0 0 H d=(eZ (fun _=>none) H 40 d,[]):=by
 unfold leave
 rw[if_neg (by cases H with|nil=>exact absurd rfl h|cons a l=>simp)]
 rfl
@[simp] theorem akw{o:Ob}{r:U}{d:D}:leave 0 0 (o::r) d=(eZ (fun _=>none) (o::r) 40 d,[]):=XJ (by simp)
attribute [simp] and_assoc Kind.cells Clause.cells dP Pos.cells dG eU.cells eU.ib
def iO(T:gj)(n:Nat)(live:List Nat)(a:IR)(s:St)(K:gA)(_:Tag (live,a,s,K)):Prop:=Ev T (.loop n live (jm a) s) (PO K)
def Gn(T:gj)(n:Nat)(live:List Nat)(a:IR)(K:gA):gA:=fun o=>match o with
 | .norm s=>iO T n live a (cut n live s) K .mk
 | o=>K o
def QI(T:gj)(v rf:Nat)(b:IR)(dst:Option Nat)(s:St)(K:St→Prop):gA:=fun o=>match o with
 | .norm s1=>∃ jw,s1.H[v]? = some (.gg rf jw .ready)∧XC T b { s1 with H:=s1.H.set v (.gg rf jw .busy) } (wN v rf dst s K)
 | _=>False
theorem nJ.r{T:gj}{v rf:Nat}{args:List D}{dst:Option Nat}{s:St}{K:St→Prop}{env0:Env}{Rd:nI}(hv:s.H[v]? = some (.gg rf env0 .ready))(hR:T.round rf=some Rd)(hl:args.length=Rd.params.length)
  (ca cb:IR) (ha:jm ca=Rd.a) (hb:jm cb=Rd.b)
  (h:XC T ca { env:=pS Rd.params args env0,H:=s.H,fG:=true } (QI T v rf cb dst s K)):nJ T v args dst s K .mk:=by
 refine⟨rf,env0,Rd,hv,hR,hl,?_⟩
 rw[← ha]
 refine(XC.wc h).mono fun o ho=>?_
 cases o with
 | norm s1=>
  obtain⟨jw,h1,h2⟩:=ho
  exact⟨s1,jw,rfl,h1,by rw[← hb];exact XC.wc h2⟩
 | exit=>exact ho.elim
 | ret=>exact ho.elim
def adn(rf:Nat)(s:St)(K:gA):D→U→Prop:=fun _ H'=>∃ env st,H'[s.H.length+1]? = some (.gg rf env st)∧oA (wL { s with H:=H'.set (s.H.length+1) .dead,marks:=s.H.length::s.marks } st) K .mk
theorem pY.r{T:gj}{rf:Nat}{live:List Nat}{x:X}{s:St}{K:gA}{f:FuncId}{first cap:List D}{fn:eW}(hr:s.fG=false)(hx:ev s.env.get x = .fn (.func f) first cap)(hf:T.fn f=some fn)(hp:fn.full=true)
  (h:Wf T f (first ++ [.gP (s.H.length+1)]++cap) (s.H ++ [.jv,.gg rf (forget live s.env) .ready]) (adn rf s K)):pY T rf live x s K .mk:=
 Ev.kX hr hx hf hp h fun d H' ⟨d',H2,he,env,st,h1,o,h2,h3⟩=>by
  cases he
  exact⟨env,st,o,h1,h2,o,rfl,h3⟩
section
variable{T:gj}{n:Nat}{live:List Nat}{a:IR}{s:St}{K:gA}{id:Nat}
theorem fe.un(h:iO T s.H.length live a { s with env:=forget live s.env } K .mk):fe T live a s K .mk:=Ev.loop h
theorem iO.u(h:XC T a s (Gn T n live a K)):iO T n live a s K .mk:=by
 refine Ev.uH (XC.wc h) (fun wT ⟨o,e,k⟩=>?_) fun o ⟨o',e,k⟩ hs=>?_
 ·cases e;exact k
 ·cases e
  cases o with
  | norm=>cases hs
  | exit=>exact⟨_,rfl,k⟩
  | ret=>exact⟨_,rfl,k⟩
@[simp ↓] theorem akW:Gn T n live a K (.norm s)=iO T n live a (cut n live s) K .mk:=(rfl)
@[simp ↓] theorem akV:Gn T n live a K (.exit id s)=K (.exit id s):=(rfl)
@[simp ↓] theorem akX:Gn T n live a K (.ret s)=K (.ret s):=(rfl)
end
theorem Xk{x b:Bool}{P Q:Prop}(k:cond b P Q)(h:x=b:=by first|(show _=true;first|assumption|exact decide_eq_true (by assumption))|(show _=false;first|assumption|exact decide_eq_false (by assumption))):X2 x P Q .mk:=by
 subst h;cases x<;>simpa using k
class PB (x:Bool) (I:outParam (Prop→Prop)) (q:outParam Prop):Prop where
 t:∀ {P:Prop},I P→x=true→P
 f:x=false→q
instance(priority:=low){x:Bool}:PB x (fun P=>x=true→P) (x=false):=⟨fun h e=>h e,id⟩
instance{p:Prop}[Decidable p]:PB (decide p) (fun P=>p→P) (¬p):=⟨fun h e=>h (of_decide_eq_true e),of_decide_eq_false⟩
instance{p q:Prop}[Decidable p][Decidable q]:PB (decide p&&decide q) (fun P=>p→q→P) (¬(p∧q)):=⟨fun h e=>by
 rw[← eG]at e
 exact h (of_decide_eq_true e).1 (of_decide_eq_true e).2,fun e=>by rw[← eG]at e;exact of_decide_eq_false e⟩
instance{p q:Prop}[Decidable p][Decidable q]:PB (decide p||decide q) (fun P=>p∨q→P) (¬(p∨q)):=⟨fun h e=>by
 rw[← eJ]at e
 exact h (of_decide_eq_true e),fun e=>by rw[← eJ]at e;exact of_decide_eq_false e⟩
theorem Xs{x:Bool}{I:Prop→Prop}{q P Q:Prop}[c:PB x I q](h:I P)(k:q→Q):X2 x P Q .mk:=⟨c.t h,fun e=>k (c.f e)⟩
theorem Yc{T:gj}{f:FuncId}{args:List D}{dst:Option Nat}{s:St}{K:St→Prop}{fn:eW}{x:D}(h:Wf T f args [] fun d H'=>d=x∧H' = [])(k:K { s with env:=put s.env dst x })
  (hf:T.fn f=some fn:=by exact rfl) (hp:fn.full=false:=by exact rfl) (hc:fy args=true:=by simp) (hx:closed x=true:=by simp):fw T f args dst s K .mk:=fw.c hf hp h hc hx k
theorem Yt{T:gj}{f:FuncId}{args:List D}{R:List Fp}{dst:Option Nat}{s:St}{Q:Rc→St→Prop}{fn:eW}{x:D}(h:Wf T f args [] fun d H'=>d=x∧H' = [])(k:Q ⟨R,[]⟩ { s with env:=put s.env dst x })
  (hf:T.fn f=some fn:=by exact rfl) (hp:fn.full=false:=by exact rfl) (hc:fy args=true:=by simp) (hx:closed x=true:=by simp):gZ T f args R dst s Q .mk:=gZ.c hf hp h hc hx k
theorem Yr{T:gj}{f:FuncId}{args ng:List D}{dst:Option Nat}{s:St}{K:St→Prop}{fn:eW}{x:D}(h:Wf T f ng [] fun d H'=>d=x∧H' = [])(k:K { s with env:=put s.env dst x })
  (hf:T.fn f=some fn:=by exact rfl) (hp:fn.full=false:=by exact rfl) (hs:args.map (eZ (fun _=>none) s.H 40)=ng:=by simp) (hx:flat x=true:=by simp[flat]) (kf:closed x=true:=by simp):fw T f args dst s K .mk:=fw.r hf hp h hs hx kf k
theorem Yg{T:gj}{f:FuncId}{args:List D}{H:U}(fn:eW){K:D→U→Prop}(h:XC T fn.body { env:=pL args,H:=H } (ub fn.results fn.own H.length K))
  (hf:T.fn f=some fn:=by exact rfl) (hl:args.length≤fn.ntmps:=by exact dQ rfl) (hz:pO fn.body=true:=by exact rfl):Wf T f args H K:=Wf.x hf hl h hz
theorem Yz{T:gj}{f:FuncId}{args:List D}{H:U}(fn:eW)(c:IR){K:D→U→Prop}(h:XC T c { env:=pL args,H:=H } (ub fn.results fn.own H.length K))
  (hf:T.fn f=some fn:=by exact rfl) (hl:args.length≤fn.ntmps:=by exact dQ rfl) (hc:jm c=fn.body:=by simp only[uW,uX];exact lJ rfl):Wf T f args H K:=Wf.xz fn.own c hf hl hc h
