/- Part 9 of TableHurry. -/
import Derived.Test.YtnaefnajkaohgaaGreatDoorG08
set_option linter.all false
namespace Go.AL
open Go
universe u
inductive Tag{α:Sort u}(a:α):Type
 | mk
def oA{α:Type}(x:Option α)(P:α→Prop)(_:Tag P):Prop:=∃ a,x=some a∧P a
@[simp] theorem uM{α:Type}(a:α)(P:α→Prop):oA (some a) P .mk=P a:=by simp[oA]
@[simp] theorem MZ{α:Type}(P:α→Prop):oA none P .mk=False:=by simp[oA]
@[simp high] theorem wy{α:Type}{c:Prop}[Decidable c](x:Option α)(P:α→Prop):oA (if c then x else none) P .mk=(c∧oA x P .mk):=by
 by_cases h:c<;>simp[h]
@[simp] theorem aht{α:Type}{c:Prop}[Decidable c](x y:Option α)(P:α→Prop):oA (if c then x else y) P .mk=((c→oA x P .mk)∧(¬c→oA y P .mk)):=by
 by_cases h:c<;>simp[h]
@[simp] theorem ahu(x:Option D)(P:D×Dl→Prop):oA (lift x) P .mk=oA x (fun d=>P (d,.no)) .mk:=by
 cases x<;>simp[lift]
@[simp] theorem ahj{α β:Type}(x:Option α)(f:α→Option β)(P:β→Prop):oA (x.bind f) P .mk=oA x (fun a=>oA (f a) P .mk) .mk:=by
 cases x<;>simp
def gB:D→Bool→Option Bool
 | .val (.bool b),want=>some (b == want)
 | .val (.tuple _),_=>some false
 | _,_=>none
@[simp] theorem afr(want:Bool):gB (.val undef) want=some false:=rfl
@[simp] theorem afq(x:Bool):gB (.b x) true=some x:=by cases x<;>rfl
@[simp] theorem afp(x:Bool):gB (.b x) false=some (!x):=by cases x<;>rfl
@[simp] theorem afv(f:fg):guardOf f none=some true:=rfl
@[simp] theorem afw(f:fg)(j:Nat)(w:Bool):guardOf f (some (j,w))=gB (f j) w:=by
 show(match f j with | .val (.bool b)=>some (b == w) | .val (.tuple _)=>some false|_=>none)=gB (f j) w
 unfold gB;split<;>simp_all
@[simp] theorem aeU(f:fg)(k:Nat):ev f (.t k)=f k:=rfl
@[simp] theorem aeT(f:fg)(d:D):ev f (.c d)=d:=rfl
@[simp] theorem aip(env:Env)(k:Nat)(d:D):put env (some k) d=(k,d)::env:=rfl
@[simp] theorem aio(env:Env)(d:D):put env none d=env:=rfl
@[simp] theorem acR(H:et)(al:Al):Dl.no.app H al=H:=rfl
@[simp] theorem acQ(H:et)(al:Al)(ob:Ob):(Dl.new ob).app H al=al.2 ob:=rfl
@[simp] theorem acS(H:et)(al:Al)(v:Nat)(ob:Ob):(Dl.obj v ob).app H al=H.set v ob:=rfl
def setCells(H:et)(v o:Nat)(xs:List D):Option Ob→et
 | some (.row t g cs)=>H.set v (.row t g (cs.take o++xs++cs.drop (o+xs.length)))
 | _=>H
@[simp] theorem acO(H:et)(al:Al)(v o:Nat)(xs:List D):(Dl.cells v o xs).app H al=setCells H v o xs H[v]? := by
 show(match H[v]? with|some (.row t g cs)=>H.set v (.row t g (cs.take o++xs++cs.drop (o+xs.length)))|_=>H)=_
 unfold setCells;split<;>simp_all
@[simp] theorem aiV(H:et)(v o:Nat)(xs:List D)(t g:Nat)(cs:List D):setCells H v o xs (some (.row t g cs))=H.set v (.row t g (cs.take o++xs++cs.drop (o+xs.length))):=rfl
def EF(k:IntKind)(a b:Int):Int:=k.wrap (a*2 ^ (min b.toNat k.bits))
def qI(k:IntKind)(a b:Int):Int:=a.fdiv (2 ^ (min b.toNat k.bits))
section
variable{k:IntKind}{a b:Int}
@[simp] theorem ac5:jc .add (.val (.int k a)) (.val (.int k b))=ij .add k a b:=by simp[jc,mr]
@[simp] theorem adm:jc .sub (.val (.int k a)) (.val (.int k b))=ij .sub k a b:=by simp[jc,mr]
@[simp] theorem adf:jc .mul (.val (.int k a)) (.val (.int k b))=ij .mul k a b:=by simp[jc,mr]
@[simp] theorem adh:jc .quo (.val (.int k a)) (.val (.int k b))=ij .quo k a b:=by simp[jc,mr]
@[simp] theorem adi:jc .rem (.val (.int k a)) (.val (.int k b))=ij .rem k a b:=by simp[jc,mr]
@[simp] theorem ac6:jc .and (.val (.int k a)) (.val (.int k b))=some (.val (.int k (bits .and k a b))):=by simp[jc,mr,ij]
@[simp] theorem ac7:jc .andNot (.val (.int k a)) (.val (.int k b))=some (.val (.int k (bits .andNot k a b))):=by simp[jc,mr,ij]
@[simp] theorem ac8:jc .eql (.val (.int k a)) (.val (.int k b))=some (.b (decide (a=b))):=by simp[jc,mr,ij,BEq.beq]
@[simp] theorem adg:jc .neq (.val (.int k a)) (.val (.int k b))=some (.b (!decide (a=b))):=by simp[jc,mr,ij,bne,BEq.beq]
@[simp] theorem ade:jc .lss (.val (.int k a)) (.val (.int k b))=some (.b (decide (a<b))):=by simp[jc,mr,ij]
@[simp] theorem adb:jc .leq (.val (.int k a)) (.val (.int k b))=some (.b (decide (a≤b))):=by simp[jc,mr,ij]
@[simp] theorem ada:jc .gtr (.val (.int k a)) (.val (.int k b))=some (.b (decide (a>b))):=by simp[jc,mr,ij]
@[simp] theorem ac9:jc .geq (.val (.int k a)) (.val (.int k b))=some (.b (decide (a≥b))):=by simp[jc,mr,ij]
@[simp] theorem adj{k2:IntKind}:jc .shl (.val (.int k a)) (.val (.int k2 b))=if 0≤b then some (.val (.int k (EF k a b)))else none:=rfl
@[simp] theorem adk{k2:IntKind}:jc .shr (.val (.int k a)) (.val (.int k2 b))=if 0≤b then some (.val (.int k (qI k a b)))else none:=rfl
@[simp] theorem adl(op:BinOp)(s t:ByteArray):jc op (.val (.string s)) (.val (.string t))=wQ op s t:=rfl
@[simp] theorem akh(x:Bool):zY .not (.b x)=some (.b !x):=rfl
@[simp] theorem akg(n:Int):zY .neg (.i n)=if kL (-n)then some (.i (-n))else none:=rfl
@[simp] theorem aeI(k':IntKind):CL k' (.val (.int k a))=some (.val (.int k' (k'.wrap a))):=rfl
end
@[simp] theorem aeY(off v g o:Nat):xW off (.ptr v g o)=some (.ptr v g (o+off)):=rfl
@[simp] theorem aeX(off:Nat)(cs:List D):xW off (.eG cs)=some (.eG (cs.drop off)):=rfl
@[simp] theorem aeZ(off n:Nat)(cs:List D):tP off n true (.agg cs)=if off+n≤cs.length then some (.agg ((cs.drop off).take n))else none:=rfl
@[simp] theorem ae0(off n:Nat)(cs:List D):tP off n false (.agg cs)=cs[off]? := rfl
@[simp] theorem aeV(ds:List D)(i:Nat):CZ (.tup ds) i=ds[i]? := rfl
@[simp] theorem ag5(v g o:Nat):uK (.ptr v g o)=some (.ptr v g o):=rfl
@[simp] theorem ag4(cs:List D):uK (.eG cs)=some (.eG cs):=rfl
@[simp] theorem ag3(f:FuncId)(a b:List D):uK (.fn (.func f) a b)=some (.fn (.func f) a b):=rfl
@[simp] theorem ag6(v:Nat):uK (.gy v)=some (.gy v):=rfl
def rowOf(k:Nat):Option Ob→Option (TypeId×List D)
 | some (.row t g cs)=>if g=k then some (t,cs)else none
 | _=>none
@[simp] theorem aiT(H:et)(v k:Nat):rowAt H v k=rowOf k H[v]? := by
 unfold rowAt rowOf;split<;>simp_all
@[simp] theorem aiU(k:Nat)(t:TypeId)(g:Nat)(cs:List D):rowOf k (some (.row t g cs))=if g=k then some (t,cs)else none:=rfl
@[simp] theorem agj(v g o:Nat)(H:et):qz (.ptr v g o) H=(rowAt H v g).bind fun p=>p.2[o]? := by
 show(match rowAt H v g with|some (_,cs)=>cs[o]? | none=>none)=_
 cases rowAt H v g<;>rfl
@[simp] theorem agi(cs:List D)(H:et):qz (.eG cs) H=cs[0]? := rfl
def qB(n o:Nat):Option (TypeId×List D)→Option D
 | some p=>if o+n≤p.2.length then some (.agg ((p.2.drop o).take n))else none
 | none=>none
@[simp] theorem ago(n o:Nat):qB n o none=none:=rfl
@[simp low] theorem agp(n o:Nat)(p:TypeId×List D):qB n o (some p)=if o+n≤p.2.length then some (.agg ((p.2.drop o).take n))else none:=rfl
@[simp] theorem agl(n v g o:Nat)(H:et):qA n (.ptr v g o) H=qB n o (rowAt H v g):=by
 show(match rowAt H v g with|some (_,cs)=>if o+n≤cs.length then some (D.agg ((cs.drop o).take n))else none|none=>none)=_
 cases rowAt H v g<;>rfl
@[simp] theorem agk(n:Nat)(cs:List D)(H:et):qA n (.eG cs) H=if n≤cs.length then some (.agg (cs.take n))else none:=rfl
@[simp] theorem ajL(v g o:Nat)(x:D)(H:et):u3 (.ptr v g o) x H=(rowAt H v g).bind fun p=>if o<p.2.length∧one x=true then some (.any,.cells v o [x])else none:=by
 show(match rowAt H v g with|some (_,cs)=>if o<cs.length∧one x=true then some (D.any,Dl.cells v o [x])else none|none=>none)=_
 cases rowAt H v g<;>rfl
@[simp] theorem ajM(n v g o:Nat)(xs:List D)(H:et):u4 n (.ptr v g o) (.agg xs) H=(rowAt H v g).bind fun p=>if xs.length=n∧o+n≤p.2.length then some (.any,.cells v o xs)else none:=by
 show(match rowAt H v g with|some (_,cs)=>if xs.length=n∧o+n≤cs.length then some (D.any,Dl.cells v o xs)else none|none=>none)=_
 cases rowAt H v g<;>rfl
@[simp] theorem adr(t:TypeId)(cs:List D)(n:Nat):mZ t (.agg cs) n=some (.ptr n 0 0,.new (.row t 0 cs)):=rfl
@[simp] theorem adJ(cs:List D):cellsOf (.agg cs)=some cs:=rfl
@[simp] theorem adR(k:IntKind)(n:Int):cellsOf (.val (.int k n))=some [.val (.int k n)]:=rfl
@[simp] theorem adK(b:Bool):cellsOf (.b b)=some [.b b]:=rfl
@[simp] theorem adW(b:ByteArray):cellsOf (.val (.string b))=some [.val (.string b)]:=rfl
@[simp] theorem adV(sz:Nat)(es:List (List D)):cellsOf (.sl sz es)=some [.sl sz es]:=rfl
@[simp] theorem adL(l:List Int):cellsOf (dI l)=some [dI l]:=rfl
@[simp] theorem O0(l:List Pos):cellsOf (fh l)=some [fh l]:=rfl
@[simp] theorem OZ(l:List eI):cellsOf (ft l)=some [ft l]:=rfl
@[simp] theorem adO:cellsOf .U=some [.U]:=rfl
@[simp] theorem adT(v g sz off n:Nat):cellsOf (.eu v g sz off n)=some [.eu v g sz off n]:=rfl
@[simp] theorem adU(v g o:Nat):cellsOf (.ptr v g o)=some [.ptr v g o]:=rfl
@[simp] theorem adQ(cs:List D):cellsOf (.eG cs)=some [.eG cs]:=rfl
@[simp] theorem adS(v:Nat):cellsOf (.fC v)=some [.fC v]:=rfl
@[simp] theorem adP(f:Fn)(a b:List D):cellsOf (.fn f a b)=some [.fn f a b]:=rfl
@[simp] theorem ah4(k:IntKind)(n:Int):one (.val (.int k n))=true:=rfl
@[simp] theorem ahW(b:Bool):one (.b b)=true:=rfl
@[simp] theorem ah9(b:ByteArray):one (.val (.string b))=true:=rfl
@[simp] theorem ah8(sz:Nat)(es:List (List D)):one (.sl sz es)=true:=rfl
@[simp] theorem ahX(l:List Int):one (dI l)=true:=rfl
@[simp] theorem ahZ(l:List Pos):one (fh l)=true:=rfl
@[simp] theorem ahY(l:List eI):one (ft l)=true:=rfl
@[simp] theorem ah1:one .U=true:=rfl
@[simp] theorem ah6(v g sz off n:Nat):one (.eu v g sz off n)=true:=rfl
@[simp] theorem ah7(v g o:Nat):one (.ptr v g o)=true:=rfl
@[simp] theorem ah3(cs:List D):one (.eG cs)=true:=rfl
@[simp] theorem ah5(v:Nat):one (.fC v)=true:=rfl
@[simp] theorem ah2(f:Fn)(a b:List D):one (.fn f a b)=true:=rfl
@[simp] theorem adB(f:fg)(z:List D)(ps:List (Nat×Nat×X)):vt f z ps=(partsOf f ps).bind fun l=>(lay l z).bind fun cs=>some (D.agg cs):=by
 unfold vt;cases partsOf f ps with
 | none=>rfl
 | some l=>simp only[Option.bind_some];cases lay l z<;>rfl
@[simp] theorem adA(f:fg)(t sz:Nat)(z:List D)(m:Nat)(ps:List (Nat×X))(n:Nat):sf f t sz z m ps n=(partsOf f (ps.map fun p=>(p.1*sz,sz,p.2))).bind fun l=>(lay l (List.replicate m z).flatten).bind fun cs=>some (.eu n 0 sz 0 m,.new (.row t 0 cs)):=by
 unfold sf;cases partsOf f (ps.map fun p=>(p.1*sz,sz,p.2))with
 | none=>rfl
 | some l=>simp only[Option.bind_some];cases lay l (List.replicate m z).flatten<;>rfl
@[simp] theorem aii(f:fg):partsOf f []=some []:=rfl
@[simp] theorem aih(f:fg)(o n:Nat)(x:X)(r:List (Nat×Nat×X)):partsOf f ((o,n,x)::r)=(cellsOf (ev f x)).bind fun cs=>(partsOf f r).bind fun l=>some ((o,n,cs)::l):=by
 show(match cellsOf (ev f x),partsOf f r with|some cs,some l=>some ((o,n,cs)::l)|_,_=>none)=_
 cases cellsOf (ev f x)<;>cases partsOf f r<;>rfl
@[simp] theorem afF(sz v g off len:Nat)(k:IntKind)(n:Int):lE sz (.eu v g sz off len) (.val (.int k n))=if 0≤n∧n<len then some (.ptr v g ((off+n.toNat)*sz))else none:=by
 simp[lE]
@[simp] theorem afH(sz n v g o:Nat)(k:IntKind)(i:Int):yJ sz n (.ptr v g o) (.val (.int k i))=if 0≤i∧i<n then some (.ptr v g (o+i.toNat*sz))else none:=rfl
@[simp] theorem afG(sz n:Nat)(cs:List D)(k:IntKind)(i:Int):yJ sz n (.eG cs) (.val (.int k i))=if 0≤i∧i<n then some (.eG (cs.drop (i.toNat*sz)))else none:=rfl
@[simp] theorem afI(sz n:Nat)(b:Bool)(cs:List D)(k:IntKind)(i:Int):DM sz n b (.agg cs) (.val (.int k i))=if 0≤i∧i<n then tP (i.toNat*sz) sz b (.agg cs)else none:=rfl
@[simp] theorem adp(f:fg)(n:Int):gI f none n=some n:=rfl
def Hg:D→Option Int
 | .val (.int _ n)=>some n
 | _=>none
@[simp] theorem afK(k:IntKind)(n:Int):Hg (.val (.int k n))=some n:=rfl
@[simp] theorem adq(f:fg)(x:X)(n:Int):gI f (some x) n=Hg (ev f x):=by
 show(match ev f x with | .val (.int _ n)=>some n|_=>none)=_
 unfold Hg;split<;>simp_all
@[simp] theorem ZZ(f:fg)(sz:Nat)(es:List (List D))(lo hi:Option X):pQ f sz (.sl sz es) lo hi=(gI f lo 0).bind fun l=>(gI f hi es.length).bind fun h=>if 0≤l∧l≤h∧h≤es.length then some (.sl sz ((es.drop l.toNat).take (h.toNat-l.toNat)))else none:=by
 simp only[pQ]
 cases gI f lo 0<;>cases gI f hi es.length<;>simp
@[simp] theorem ajD(f:fg)(sz v g off len:Nat)(lo hi:Option X):pQ f sz (.eu v g sz off len) lo hi=(gI f lo 0).bind fun l=>(gI f hi len).bind fun h=>if 0≤l∧l≤h∧h≤len then some (.eu v g sz (off+l.toNat) (h.toNat-l.toNat))else none:=by
 simp only[pQ]
 cases gI f lo 0<;>cases gI f hi len<;>simp
@[simp] theorem ajC(f:fg)(sz:Nat)(lo hi:Option X):pQ f sz .U lo hi=(gI f lo 0).bind fun l=>(gI f hi 0).bind fun h=>if l=0∧h=0 then some .U else none:=by
 simp only[pQ]
 cases gI f lo 0<;>cases gI f hi 0<;>simp
theorem ZY{α:Type}(f:α→List D)(l:List α)(a b:Nat):((l.map f).drop a).take b=((l.drop a).take b).map f:=by rw[List.map_take,ec]
@[simp] theorem ajB(f:fg)(l:List Pos)(lo hi:Option X):pQ f 5 (fh l) lo hi=(gI f lo 0).bind fun a=>(gI f hi l.length).bind fun h=>if 0≤a∧a≤h∧h≤l.length then some (fh ((l.drop a.toNat).take (h.toNat-a.toNat)))else none:=by
 unfold fh;rw[ZZ,List.length_map];simp only[ZY]
@[irreducible] def cl{α:Type}(f:α→List D)(l:List α):List D:=(l.map f).flatten
theorem lL{α:Type}(f:α→List D)(l:List α):cl f l=(l.map f).flatten:=by rw[cl]
@[simp] theorem Z0(sz:Nat)(H:et)(es:List (List D)):jy sz H (.sl sz es)=some (es.flatten,es.length):=by simp[jy]
@[simp] theorem EI{α:Type}(sz:Nat)(f:α→List D)(H:et)(l:List α):jy sz H (.sl sz (l.map f))=some (cl f l,l.length):=by
 rw[Z0,List.length_map,lL]
@[simp] theorem ajE(H:et)(l:List Int):jy 1 H (dI l)=some (cl f1 l,l.length):=by unfold dI;exact EI ..
@[simp] theorem ajH(H:et)(l:List Pos):jy 5 H (fh l)=some (cl Pos.cells l,l.length):=by unfold fh;exact EI ..
@[simp] theorem ajF{α:Type}(sz:Nat)(f:α→List D)(H:et)(l:List α):jy sz H (dN sz f l)=some (cl f l,l.length):=by
 cases l with
 | nil=>show some ([],0)=_;rw[lL];rfl
 | cons a l=>exact EI sz f H (a::l)
@[simp] theorem ajI(sz:Nat)(H:et):jy sz H .U=some ([],0):=rfl
@[simp] theorem ajK(sz:Nat)(H:et)(v g off len:Nat):jy sz H (.eu v g sz off len)=(rowAt H v g).bind fun p=>if (off+len)*sz≤p.2.length then some ((p.2.drop (off*sz)).take (len*sz),len)else none:=by
 simp only[jy]
 cases rowAt H v g<;>simp
@[simp] theorem acT(t sz bytes v g len:Nat)(y:D)(H:et)(vn:Nat):pf t sz bytes (.eu v g sz 0 len) y H vn=(jy sz H y).bind fun q=>(rowAt H v g).bind fun r=>if r.1=t∧len*sz≤r.2.length∧(len+q.2)*bytes≤140737488355328∧len+q.2≤9223372036854775807 then some (.eu v (g+1) sz 0 (len+q.2),.obj v (.row t (g+1) (r.2.take (len*sz)++q.1)))else none:=by
 simp only[pf]
 cases jy sz H y with
 | none=>rfl
 | some q=>cases rowAt H v g<;>simp
@[simp] theorem acP(t sz bytes:Nat)(y:D)(H:et)(vn:Nat):pf t sz bytes .U y H vn=(jy sz H y).bind fun q=>if q.2=0 then some (.U,.no)else if q.2*bytes≤140737488355328∧q.2≤9223372036854775807 then some (.eu vn 0 sz 0 q.2,.new (.row t 0 q.1))else none:=by
 simp only[pf]
 cases jy sz H y<;>rfl
@[simp] theorem ag1(t sz bytes:Nat)(z:List D)(k k':IntKind)(n m:Int)(v:Nat):wv t sz bytes z (.val (.int k n)) (.val (.int k' m)) v=if 0≤n∧n≤m∧mu m 9223372036854775807∧mu ((bytes:Int)*m) 281474976710656 then some (.eu v 0 sz 0 n.toNat,.new (.row t 0 (List.replicate m.toNat z).flatten))else none:=rfl
@[simp] theorem agr(n:Int)(k:Nat):mu n k=(n≤(k:Int)):=rfl
@[simp] theorem afM(f:fg):mO f []=some []:=rfl
def Hc:D→Option Int
 | .val (.int .i64 n)=>some n
 | _=>none
@[simp] theorem afE(n:Int):Hc (.i n)=some n:=rfl
@[simp] theorem afL(f:fg)(x:X)(r:List X):mO f (x::r)=(Hc (ev f x)).bind fun n=>(mO f r).bind fun l=>some (n::l):=by
 show(match ev f x,mO f r with | .val (.int .i64 n),some l=>some (n::l)|_,_=>none)=_
 unfold Hc
 split
 ·rename_i h1 h2;rw[h1,h2];rfl
 ·rename_i h
  split
  ·rename_i n hn
   cases hl:mO f r with
   | none=>rfl
   | some l=>exact absurd hl (h _ _ hn)
  ·rfl
def HE(isMax:Bool):List Int→Option D
 | [a,b]=>some (.i (if isMax then max a b else min a b))
 | [a,b,c]=>some (.i (if isMax then max (max a b) c else min (min a b) c))
 | _=>none
@[simp] theorem mm2(m:Bool)(a b:Int):HE m [a,b]=some (.i (if m then max a b else min a b)):=rfl
@[simp] theorem ag0(f:fg)(m:Bool)(xs:List X):wu f m xs=(mO f xs).bind (HE m):=by
 unfold wu
 cases mO f xs with
 | none=>rfl
 | some l=>simp only[Option.bind_some];unfold HE;split<;>simp_all
@[simp] theorem adD(f:fg)(g:FuncId)(args:List X):iw f (.call g args)=some (g,args.map (ev f)):=rfl
def Cv(args:List D):D→Option (FuncId×List D)
 | .fn (.func k) first cap=>some (k,first++args++cap)
 | _=>none
@[simp] theorem adC(args:List D)(k:FuncId)(first cap:List D):Cv args (.fn (.func k) first cap)=some (k,first++args++cap):=rfl
@[simp] theorem OV(f:fg)(g:X)(args:List X):iw f (.callv g args)=Cv (args.map (ev f)) (ev f g):=by
 show(match ev f g with | .fn (.func k) first cap=>some (k,first++args.map (ev f)++cap)|_=>none)=_
 unfold Cv;split<;>simp_all
def Hr(z:D)(ok:Bool):Option D→D
 | some d=>if ok then .tup [d,.b true]else d
 | none=>if ok then .tup [z,.b false]else z
@[simp] theorem agN(z:D)(ok:Bool)(d:D):Hr z ok (some d)=if ok then .tup [d,.b true]else d:=rfl
@[simp] theorem agM(z:D)(ok:Bool):Hr z ok none=if ok then .tup [z,.b false]else z:=rfl
@[simp] theorem agO(kk:KK)(z:D)(ok:Bool)(v:Nat)(k:D)(H:et):uF kk z ok (.fC v) k H=(keyOf k).bind fun kv=>(kj H v).bind fun p=>if p.1=kk∧p.1.has kv=true then some (Hr z ok (mz p.2 kv))else none:=by
 unfold uF
 cases keyOf k with
 | none=>rfl
 | some kv=>
  cases h:kj H v with
  | none=>simp[h]
  | some p=>
   simp only[h,Option.bind_some]
   split
   ·cases mz p.2 kv<;>rfl
   ·rfl
@[simp] theorem agZ(kk:KK)(v:Nat)(k x:D)(H:et):s5 kk (.fC v) k x H=(keyOf k).bind fun kv=>(kj H v).bind fun p=>if p.1=kk∧p.1.has kv=true then some (.any,.obj v (.map p.1 (kN p.2 kv x)))else none:=by
 unfold s5
 cases keyOf k with
 | none=>rfl
 | some kv=>cases h:kj H v<;>simp[h]
def mapOf:Option Ob→Option (KK×List (Value×D))
 | some (.map kk es)=>some (kk,es)
 | _=>none
@[simp] theorem agY(kk:KK)(es:List (Value×D)):mapOf (some (.map kk es))=some (kk,es):=rfl
@[simp] theorem agX(H:et)(v:Nat):kj H v=mapOf H[v]? := by
 unfold kj mapOf;split<;>simp_all
@[simp] theorem age(s:ByteArray):keyOf (.val (.string s))=some (.string s):=rfl
@[simp] theorem agc(b:Bool):keyOf (.b b)=some (.bool b):=rfl
@[simp] theorem agd(k:IntKind)(n:Int):keyOf (.val (.int k n))=some (.int k n):=rfl
@[simp] theorem aeR(ls:List lH)(neg:Bool)(x y:D):tK false ls neg x y=(lu ls [x] [y]).bind fun r=>some (.b (if neg then !r else r)):=by
 simp only[tK]
 cases lu ls [x] [y]<;>rfl
@[simp] theorem aeQ(ls:List lH)(neg:Bool)(x y:List D):tK true ls neg (.agg x) (.agg y)=(lu ls x y).bind fun r=>some (.b (if neg then !r else r)):=by
 simp only[tK]
 cases lu ls x y<;>rfl
@[simp] theorem adI:lu [] [] []=some true:=rfl
@[simp] theorem adH(l:lH)(ls:List lH)(x y:D)(xs ys:List D):lu (l::ls) (x::xs) (y::ys)=(pg l x y).bind fun a=>(lu ls xs ys).bind fun b=>some (a&&b):=by
 show(match pg l x y,lu ls xs ys with|some a,some b=>some (a&&b)|_,_=>none)=_
 cases pg l x y<;>cases lu ls xs ys<;>rfl
@[simp] theorem adF(a b:Int):pg .int (.i a) (.i b)=some (decide (a=b)):=by simp[pg,BEq.beq]
@[simp] theorem adE(a b:Bool):pg .bool (.b a) (.b b)=some (a == b):=rfl
@[simp] theorem adG(a b:ByteArray):pg .str (.val (.string a)) (.val (.string b))=some (a.data.toList == b.data.toList):=rfl
attribute [simp] eZ kill o9 wH e7 gT qZ pL oP oO jZ D4 lay Al.last mz kN ot KK.has eV
@[simp] theorem ako(v g sz off n:Nat):kD (.eu v g sz off n) = [(v,none)]:=rfl
@[simp] theorem akn(v:Nat):kD (.fC v) = [(v,none)]:=rfl
@[simp] theorem akq(sz:Nat)(es:List (List D)):kD (.sl sz es) = []:=rfl
@[simp] theorem akl:kD .U = []:=rfl
@[simp] theorem akr(v:Value):kD (.val v) = []:=rfl
@[simp] theorem akj(cs:List D):kD (.agg cs) = []:=rfl
@[simp] theorem akm(cs:List D):kD (.eG cs) = []:=rfl
@[simp] theorem akp(v g o:Nat):kD (.ptr v g o) = []:=rfl
@[simp] theorem akk(l:List Int):kD (dI l) = []:=by unfold dI;rfl
def XB(d:D)(P Q:Prop)(_:Tag (PProd.mk P Q)):Prop:=∃ x,d = .b x∧(x=true→P)∧(x=false→Q)
def X2(x:Bool)(P Q:Prop)(_:Tag (PProd.mk P Q)):Prop:=(x=true→P)∧(x=false→Q)
@[simp] theorem aaM(P Q:Prop):X2 true P Q .mk=P:=by simp[X2]
@[simp] theorem aaJ(P Q:Prop):X2 false P Q .mk=Q:=by simp[X2]
@[simp] theorem aaK(x:Bool)(P Q:Prop):X2 (!x) P Q .mk=X2 x Q P .mk:=by cases x<;>simp[X2]
@[simp] theorem aaL(x y:Bool)(P Q:Prop):X2 (!x || !y) P Q .mk=X2 (x&&y) Q P .mk:=by cases x<;>cases y<;>simp[X2]
theorem X2.d{p:Prop}[Decidable p]{P Q:Prop}(h:p→P)(k:¬p→Q):X2 (decide p) P Q .mk:=⟨fun e=>h (of_decide_eq_true e),fun e=>k (of_decide_eq_false e)⟩
theorem X2.a{p q:Prop}[Decidable p][Decidable q]{P Q:Prop}(h:p→q→P)(k:¬(p∧q)→Q):X2 (decide p&&decide q) P Q .mk:=by
 rw[← dM];exact X2.d (fun e=>h e.1 e.2) k
theorem X2.o{p q:Prop}[Decidable p][Decidable q]{P Q:Prop}(h:p∨q→P)(k:¬(p∨q)→Q):X2 (decide p||decide q) P Q .mk:=by
 rw[← dT];exact X2.d h k
theorem X2.z{p:Prop}[Decidable p]{P Q:Prop}(h:¬p)(k:Q):X2 (decide p) P Q .mk:=X2.d (fun n=>absurd n h) (fun _=>k)
@[simp] theorem aaO(x:Bool)(a b:D)(P Q:Prop):XB (bif x then a else b) P Q .mk=X2 x (XB a P Q .mk) (XB b P Q .mk) .mk:=by
 cases x<;>simp
theorem X2.b{x:Bool}{P Q:Prop}(h:x=true→P)(k:x=false→Q):X2 x P Q .mk:=⟨h,k⟩
theorem Xg{p q:Prop}(b:q)(a:p:=by first|omega|assumption):p∧q:=⟨a,b⟩
@[simp] theorem aaN(x:Bool)(P Q:Prop):XB (.b x) P Q .mk=X2 x P Q .mk:=by
 cases x<;>simp[XB,X2]
@[simp high] theorem aaQ(P Q:Prop):XB (.b true) P Q .mk=P:=by simp[XB]
@[simp high] theorem aaP(P Q:Prop):XB (.b false) P Q .mk=Q:=by simp[XB]
def XG(g:Option Bool)(P Q:Prop)(_:Tag (PProd.mk P Q)):Prop:=∃ x,g=some x∧(x=true→P)∧(x=false→Q)
@[simp] theorem aa6(x:Bool)(P Q:Prop):XG (some x) P Q .mk=X2 x P Q .mk:=by
 cases x<;>simp[XG,X2]
@[simp high] theorem aa9(P Q:Prop):XG (some true) P Q .mk=P:=by simp[XG]
@[simp high] theorem aa8(P Q:Prop):XG (some false) P Q .mk=Q:=by simp[XG]
@[simp] theorem aa7(x w:Bool)(a b:D)(P Q:Prop):XG (gB (bif x then a else b) w) P Q .mk=X2 x (XG (gB a w) P Q .mk) (XG (gB b w) P Q .mk) .mk:=by
 cases x<;>simp
def kp(s:St)(dst:Option Nat)(K:St→Prop):D×Dl→Prop:=fun p=>K { s with env:=put s.env dst p.1,H:=p.2.app s.H (Al.last s.H) }
def kt(s:St)(dst:Option Nat)(R:List Fp)(Q:Rc→St→Prop):D×Dl→Prop:=fun p=>Q ⟨R,gT s.H.length p.2⟩ { s with env:=put s.env dst p.1,H:=p.2.app s.H (Al.last s.H) }
section
variable(T:fH)
def eU(f:FuncId)(args:List D)(dst:Option Nat)(s:St)(K:St→Prop)(_:Tag (dst,s,K)):Prop:=
 (∃ fn,T.fn f=some fn∧fn.full=false∧Wf T f (args.map (eC (fun _=>none) s.H 40)) [] fun d Hn=>oA (after s dst args d Hn) K .mk) ∨
 (∃ fn,T.fn f=some fn∧fn.full=true∧Wf T f args s.H fun d H'=>K { s with env:=put s.env dst d,H:=H' })
def gq(f:FuncId)(args:List D)(R:List Fp)(dst:Option Nat)(s:St)(Q:Rc→St→Prop)(_:Tag (dst,s,Q)):Prop:=
 ∃ fn d,T.fn f=some fn∧fn.full=false∧Wf T f (args.map (eC (fun _=>none) s.H 40)) [] (fun d' Hn=>d'=d∧Hn = [])∧(if eV args then closed d else flat d)=true∧Q ⟨R,[]⟩ { s with env:=put s.env dst d }
def r7(f:FuncId)(args:List D)(R:List Fp)(dst:Option Nat)(s:St)(Q:Rc→St→Prop)(t:Tag (dst,s,Q)):Prop:=
 gq T f args R dst s Q t∨∃ fn d ob,T.fn f=some fn∧fn.full=false∧Wf T f (args.map (eC (fun _=>none) s.H 40)) [] (fun d' Hn=>d'=d∧Hn = [ob]) ∧
  (if eV args then jX d&&kU ob else lV d&&l4 ob)=true∧Q ⟨R,[(s.H.length,none)]⟩ { s with env:=put s.env dst (iB s.H.length d),H:=s.H ++ [ob] }
def pe(f:FuncId)(args:List D)(R:List Fp)(dst:Option Nat)(s:St)(Q:Rc→St→Prop)(t:Tag (dst,s,Q)):Prop:=
 r7 T f args R dst s Q t∨∃ fn d v,T.fn f=some fn∧fn.full=false∧(∀ u∈(args.map (fD s.H 40)).flatten,u=v)∧v∈(args.map (fD s.H 40)).flatten∧(rowsOf s.H v).isSome=true ∧
  eV (args.map (eC (fun _=>none) s.H 40))=true∧Wf T f (args.map (eC (fun _=>none) s.H 40)) [] (fun d' Hn=>d'=d∧Hn = [])∧closed d=true∧Q ⟨R,[(v,none)]⟩ { s with env:=put s.env dst d,H:=s.H.set v .dead }
def uS(v rf:Nat)(dst:Option Nat)(s:St)(K:St→Prop):gp:=fun o=>∃ iL,o.st.H[v]? = some (.fE rf iL .busy)∧K { s with env:=put s.env dst (.b !o.stop),H:=o.st.H.set v (.fE rf iL o.tc) }
def nW(v:Nat)(args:List D)(dst:Option Nat)(s:St)(K:St→Prop)(_:Tag (dst,s,K)):Prop:=
 ∃ rf env0 Rd,s.H[v]? = some (.fE rf env0 .ready)∧T.round rf=some Rd∧args.length=Rd.params.length ∧
  Wc T Rd.a { env:=oJ Rd.params args env0,H:=s.H,fV:=true } fun o=>∃ s1 iV,o = .norm s1∧s1.H[v]? = some (.fE rf iV .ready)∧Wc T Rd.b { s1 with H:=s1.H.set v (.fE rf iV .busy) } (uS v rf dst s K)
def p7(d:D)(args:List D)(dst:Option Nat)(s:St)(K:St→Prop)(t:Tag (dst,s,K)):Prop:=
 match d with
 | .gy v=>nW T v args dst s K t
 | d=>oA (Cv args d) (fun p=>eU T p.1 p.2 dst s K t) .mk
def vj(x:D)(dst:Option Nat)(s:St)(K:St→Prop)(_:Tag (dst,s,K)):Prop:=
 ∃ v m since seen kk es,x = .ptr v 0 0∧s.H[v]? = some (.jK (.fC m) since seen)∧s.H[m]? = some (.map kk es)∧es.length=since ∧
  ((∀ i,i<es.length→i∈seen)→K { s with env:=put s.env dst (.tup [.b false]) }) ∧
  (∀ i k d,es[i]? = some (k,d)→i ∉ seen→K { s with env:=put s.env dst (.tup [.b true,.val k,d]),H:=s.H.set v (.jK (.fC m) since (seen ++ [i])) })
def gf(op:fY)(dst:Option Nat)(s:St)(K:St→Prop):Prop:=
 match op with
 | .call f args=>eU T f (args.map (ev s.env.get)) dst s K .mk
 | .callN f args=>eU T f (args.map (ev s.env.get)) dst s K .mk
 | .callv f args=>p7 T (ev s.env.get f) (args.map (ev s.env.get)) dst s K .mk
 | .nilS a b=>oA (jZ s.env.get s.H s.H.length (.nilS a b)) (kp s dst K) .mk
 | .capE a=>oA (jZ s.env.get s.H s.H.length (.capE a)) (kp s dst K) .mk
 | .appZ a b c d e f=>oA (jZ s.env.get s.H s.H.length (.appZ a b c d e f)) (kp s dst K) .mk
 | .clr a b c=>oA (jZ s.env.get s.H s.H.length (.clr a b c)) (kp s dst K) .mk
 | .rangeS a=>oA (jZ s.env.get s.H s.H.length (.rangeS a)) (kp s dst K) .mk
 | .nextS a=>oA (jZ s.env.get s.H s.H.length (.nextS a)) (kp s dst K) .mk
 | .rangeM a=>oA (jZ s.env.get s.H s.H.length (.rangeM a)) (kp s dst K) .mk
 | .entry a=>oA (jZ s.env.get s.H s.H.length (.entry a)) (kp s dst K) .mk
 | .nextM a=>vj (ev s.env.get a) dst s K .mk
 | op=>oA (eZ s.env.get s.H s.H.length op) (kp s dst K) .mk
def gY(op:fY)(dst:Option Nat)(s:St)(Q:Rc→St→Prop):Prop:=
 match op with
 | .call f args=>gq T f (args.map (ev s.env.get)) (e7 s.env.get s.H (.call f args)) dst s Q .mk
 | .callN f args=>pe T f (args.map (ev s.env.get)) (e7 s.env.get s.H (.callN f args)) dst s Q .mk
 | .callv f args=>oA (iw s.env.get (.callv f args)) (fun p=>gq T p.1 p.2 (e7 s.env.get s.H (.callv f args)) dst s Q .mk) .mk
 | op=>oA (eZ s.env.get s.H s.H.length op) (kt s dst (e7 s.env.get s.H op) Q) .mk
def XO:List eX→St→(St→Prop)→Prop
 | [],s,K=>K s
 | e::r,s,K=>XG (guardOf s.env.get e.guard) (gf T e.op e.dst s fun s'=>XO r s' K) (XO r { s with env:=put s.env e.dst (.val undef) } K) .mk
def XT:List eX→St→(List Rc→St→Prop)→Prop
 | [],s,K=>K [] s
 | e::r,s,K=>XG (guardOf s.env.get e.guard) (gY T e.op e.dst s fun rc s'=>XT r s' fun rs s2=>K (rc::rs) s2) (XT r { s with env:=put s.env e.dst (.val undef) } fun rs s2=>K (⟨[],[]⟩::rs) s2) .mk
end
section
variable{T:fH}
theorem HN{α:Type}{x:Option α}{P Q:α→Prop}{t:Tag P}{u:Tag Q}(h:oA x P t)(hi:∀ a,P a→Q a):oA x Q u:=by
 obtain⟨a,h1,h2⟩:=h;exact⟨a,h1,hi a h2⟩
theorem eU.mono{f:FuncId}{args:List D}{dst:Option Nat}{s:St}{K K':St→Prop}{t:Tag (dst,s,K)}{u:Tag (dst,s,K')}(h:eU T f args dst s K t)(hi:∀ s,K s→K' s):eU T f args dst s K' u:=by
 rcases h with⟨fn,hf,hp,h⟩|⟨fn,hf,hp,h⟩
 ·exact .inl ⟨fn,hf,hp,Wf.mono h fun d Hn h=>HN h hi⟩
 ·exact .inr ⟨fn,hf,hp,Wf.mono h fun d H h=>hi _ h⟩
theorem nW.mono{v:Nat}{args:List D}{dst:Option Nat}{s:St}{K K':St→Prop}{t:Tag (dst,s,K)}{u:Tag (dst,s,K')}(h:nW T v args dst s K t)(hi:∀ s,K s→K' s):nW T v args dst s K' u:=by
 obtain⟨rf,env0,Rd,hv,hR,hl,h⟩:=h
 exact⟨rf,env0,Rd,hv,hR,hl,h.mono fun o ⟨s1,iV,he,h1,h2⟩=>⟨s1,iV,he,h1,h2.mono fun o ⟨iL,h3,h4⟩=>⟨iL,h3,hi _ h4⟩⟩⟩
theorem p7.mono{d:D}{args:List D}{dst:Option Nat}{s:St}{K K':St→Prop}{t:Tag (dst,s,K)}{u:Tag (dst,s,K')}(h:p7 T d args dst s K t)(hi:∀ s,K s→K' s):p7 T d args dst s K' u:=by
 unfold p7 at h ⊢
 split at h
 ·exact nW.mono h hi
 ·exact HN h fun p hp=>eU.mono hp hi
theorem vj.mono{x:D}{dst:Option Nat}{s:St}{K K':St→Prop}{t:Tag (dst,s,K)}{u:Tag (dst,s,K')}(h:vj x dst s K t)(hi:∀ s,K s→K' s):vj x dst s K' u:=by
 obtain⟨v,m,since,seen,kk,es,h1,h2,h3,h4,h5,h6⟩:=h
 exact⟨v,m,since,seen,kk,es,h1,h2,h3,h4,fun h=>hi _ (h5 h),fun i k d e1 e2=>hi _ (h6 i k d e1 e2)⟩
theorem gf.mono{op:fY}{dst:Option Nat}{s:St}{K K':St→Prop}(h:gf T op dst s K)(hi:∀ s,K s→K' s):gf T op dst s K':=by
 unfold gf at h ⊢
 split at h<;>first
  | exact eU.mono h hi
  | exact p7.mono h hi
  | exact vj.mono h hi
  | exact HN h fun p hp=>hi _ hp
theorem XO.mono:∀ {l:List eX} {s:St} {K K':St→Prop},XO T l s K→(∀ s,K s→K' s)→XO T l s K'
 | [],s,K,K',h,hi=>hi s h
 | e::r,s,K,K',h,hi=>by
  obtain⟨x,hg,ht,hf⟩:=h
  exact⟨x,hg,fun e=>gf.mono (ht e) fun s' h=>XO.mono h hi,fun e=>XO.mono (hf e) hi⟩
theorem eU.wo{f:FuncId}{args:List D}{s:St}{K:St→Prop}{e:eX}{r:List eX}(hg:guardOf s.env.get e.guard=some true)(hc:iw s.env.get e.op=some (f,args))(h:eU T f args e.dst s (fun s'=>Wo T r s' K) .mk):Wo T (e::r) s K:=by
 rcases h with⟨fn,hf,hp,h⟩|⟨fn,hf,hp,h⟩
 ·refine Ev.xD hg hc hf hp h (fun d Hn hd=>?_) fun d Hn s' hd fq=>?_
  ·obtain⟨d',H',he,s',hs,hk⟩:=hd
   cases he;rw[hs];rfl
  ·obtain⟨d',H',he,s2,hs,hk⟩:=hd
   cases he
   rw[hs]at fq;cases fq
   exact hk
 ·exact Ev.xC hg hc hf hp h fun d H' hd=>by
   obtain⟨d',H2,he,hk⟩:=hd
   cases he;exact hk
theorem XO.qL{l2:List eX}{K:St→Prop}:∀ {l:List eX} {s:St},XO T l s (fun s'=>Wo T l2 s' K)→Wo T (l++l2) s K
 | [],s,h=>h
 | e::r,s,h=>by
  obtain⟨x,hg,ht,hf⟩:=h
  cases x with
  | false=>exact Wo.off hg (XO.qL (hf rfl))
  | true=>
   have h:=ht rfl
   have plain:oA (eZ s.env.get s.H s.H.length e.op) (kp s e.dst fun s'=>XO T r s' fun s'=>Wo T l2 s' K) .mk→Wo T (e::r++l2) s K:=fun⟨⟨d,δ⟩,hd,hk⟩=>Wo.op hg hd (XO.qL hk)
   have sp:oA (jZ s.env.get s.H s.H.length e.op) (kp s e.dst fun s'=>XO T r s' fun s'=>Wo T l2 s' K) .mk→Wo T (e::r++l2) s K:=fun⟨⟨d,δ⟩,hd,hk⟩=>Wo.uZ hg hd (XO.qL hk)
   have call:∀ f args,iw s.env.get e.op=some (f,args)→eU T f args e.dst s (fun s'=>XO T r s' fun s'=>Wo T l2 s' K) .mk→Wo T (e::r++l2) s K:=fun f args hc hx=>by
    refine eU.wo hg hc ?_
    rcases hx with⟨fn,hf,hp,h⟩|⟨fn,hf,hp,h⟩
    ·exact .inl ⟨fn,hf,hp,Wf.mono h fun d Hn ⟨s',h1,h2⟩=>⟨s',h1,XO.qL h2⟩⟩
    ·exact .inr ⟨fn,hf,hp,Wf.mono h fun d Hn h1=>XO.qL h1⟩
   unfold gf at h
   split at h
   case h_1 f args he=>exact call _ _ (by rw[he];rfl) h
   case h_2 f args he=>exact call _ _ (by rw[he];rfl) h
   case h_3 f args he=>
    unfold p7 at h
    split at h
    ·rename_i v hv
     obtain⟨rf,env0,Rd,mb,hR,hl,h⟩:=h
     have hy:yieldOf s.env.get e.op=some (v,args.map (ev s.env.get)):=by rw[he];simp only[yieldOf,hv]
     refine Ev.Cu hg hy mb hR hl h (fun o ⟨o',e1,s1,iV,e2,h1,h2⟩=>?_) (Rb:=PO (uS v rf e.dst s fun s'=>XO T r s' fun s'=>Wo T l2 s' K)) (fun s1 iV ⟨o',e1,s2,iL,e2,h1,h2⟩ h3=>?_) (fun o ⟨o',e1,iL,h1,h2⟩=>?_) fun o iL ⟨o',e1,aeP,h1,h2⟩ h3=>?_
     ·cases e1;subst e2;exact⟨rfl,iV,h1⟩
     ·cases e1;cases e2
      rw[h1]at h3;cases h3;exact h2
     ·cases e1;exact⟨iL,h1⟩
     ·cases e1
      rw[h1]at h3;cases h3
      exact XO.qL h2
    ·rename_i hn
     obtain⟨p,hp,h⟩:=h
     exact call p.1 p.2 (by rw[he,OV];exact hp) h
   case h_12 a he=>
    obtain⟨v,m,since,seen,kk,es,h1,h2,h3,h4,h5,h6⟩:=h
    exact Ev.next hg he h1 h2 h3 h4 (fun k=>XO.qL (h5 k)) fun i k d e1 e2=>XO.qL (h6 i k d e1 e2)
   case h_13=>exact plain h
   all_goals (rename_i he;exact sp (by rw[he];exact h))
theorem XO.wo{l:List eX}{s:St}{K:St→Prop}(h:XO T l s K):Wo T l s K:=by
 have:=XO.qL (l2:=[]) (K:=K) (XO.mono h fun s' k=>Wo.nil k)
 rwa [av]at this
theorem XT.wt:∀ {l:List eX} {s:St} {K:List Rc→St→Prop},XT T l s K→Wt T l s K
 | [],s,K,h=>Wt.nil h
 | e::r,s,K,h=>by
  obtain⟨x,hg,ht,hf⟩:=h
  cases x with
  | false=>exact Wt.off hg (XT.wt (hf rfl))
  | true=>
   have h:=ht rfl
   have call:∀ f args,iw s.env.get e.op=some (f,args)→gq T f args (e7 s.env.get s.H e.op) e.dst s (fun rc s'=>XT T r s' fun rs s2=>K (rc::rs) s2) .mk→Wt T (e::r) s K:=fun f args hc ⟨fn,d,hf,hp,hw,fj,hk⟩=>
    Ev.zP hg hc hf hp hw (fun d' Hn ⟨d2,H2,he,hd⟩=>by cases he;exact hd) fj (XT.wt hk) fun rs s' ⟨NM,s2,he,k⟩=>by cases he;exact⟨_,_,rfl,k⟩
   unfold gY at h
   split at h
   case h_1 f args he=>exact call _ _ (by rw[he];rfl) (by rw[he];exact h)
   case h_2 f args he=>
    rcases h with(h|⟨fn,d,ob,hf,hp,hw,fj,hk⟩)|⟨fn,d,v,hf,hp,hS,hv,fy,fj,hw,hr,hk⟩
    ·exact call _ _ (by rw[he];rfl) (by rw[he];exact h)
    ·exact Ev.zQ hg he rfl hf hp hw (fun d' Hn ⟨d2,H2,he,hd⟩=>by cases he;exact hd) fj (XT.wt hk) fun rs s' ⟨NM,s2,e2,k⟩=>by cases e2;rw[he];exact⟨_,_,rfl,k⟩
    ·exact Ev.zS hg he rfl hf hp hS hv fy fj hw (fun d' Hn ⟨d2,H2,he,hd⟩=>by cases he;exact hd) hr (XT.wt hk) fun rs s' ⟨NM,s2,e2,k⟩=>by cases e2;rw[he];exact⟨_,_,rfl,k⟩
   case h_3 f args he=>obtain⟨p,hp,h⟩:=h;exact call p.1 p.2 (by rw[he];exact hp) (by rw[he];exact h)
   case h_4=>obtain⟨⟨d,δ⟩,hd,hk⟩:=h;exact Wt.op hg hd (XT.wt hk)
end
def iY:IR→IR
 | .seq a b=>.seq (iY a) (iY b)
 | .cond c a b=>.cond c (iY a) (iY b)
 | .block id live a=>.block id live (iY a)
 | .loop live a=>.loop live (iY a)
 | .fz _ a=>iY a
 | .po _ a b=>.ops (a++b)
 | c=>c
def oE:IR→Bool
 | .seq a b=>oE a&&oE b
 | .cond _ a b=>oE a&&oE b
 | .block _ _ a=>oE a
 | .loop _ a=>oE a
 | .fz _ _=>false
 | .po _ _ _=>false
 | _=>true
theorem mg:∀ {c:IR},oE c=true→iY c=c
 | .seq a b,h=>by simp only[oE,ah]at h;rw[iY,mg h.1,mg h.2]
 | .cond _ a b,h=>by simp only[oE,ah]at h;rw[iY,mg h.1,mg h.2]
 | .block _ _ a,h=>by rw[iY,mg (c:=a) h]
 | .loop _ a,h=>by rw[iY,mg (c:=a) h]
 | .fz _ _,h=>by cases h
 | .po _ _ _,h=>by cases h
 | .skip,_ | .ops _,_ | .eN _ _,_ | .jN _ _ _,_ | .jY _ _ _,_ | .exit _,_ | .ret,_ | .bad,_=>rfl
def jE(k:Nat):List eX→Bool
 | { dst:=some j,.. }::_=>decide (j=k)
 | _=>false
def gu(k:Nat)(S:List Nat):IR→IR
 | .ops l=>bif jE k l then .fz S (.ops l)else .ops l
 | .eN p l=>bif jE k l then .fz S (.eN p l)else .eN p l
 | .jN p l e=>bif jE k l then .fz S (.jN p l e)else .jN p l e
 | .seq a b=>.seq (gu k S a) (gu k S b)
 | .cond c a b=>.cond c (gu k S a) (gu k S b)
 | .block id live a=>.block id live (gu k S a)
 | .loop live a=>.loop live (gu k S a)
 | .fz S' a=>.fz S' (gu k S a)
 | c=>c
theorem tg(k:Nat)(S:List Nat):∀ c:IR,iY (gu k S c)=iY c
 | .ops l=>by unfold gu;cases jE k l<;>rfl
 | .eN p l=>by unfold gu;cases jE k l<;>rfl
 | .jN p l e=>by unfold gu;cases jE k l<;>rfl
 | .seq a b=>by simp only[gu,iY,tg k S a,tg k S b]
 | .cond c a b=>by simp only[gu,iY,tg k S a,tg k S b]
 | .block id live a=>by simp only[gu,iY,tg k S a]
 | .loop live a=>by simp only[gu,iY,tg k S a]
 | .fz S' a=>by simp only[gu,iY,tg k S a]
 | .skip | .jY _ _ _ | .exit _ | .ret | .bad | .po _ _ _=>rfl
def kG(k:Nat):List eX→List eX
 | []=>[]
 | e::r=>bif jE k [e]then []else e::kG k r
def kI(k:Nat):List eX→List eX
 | []=>[]
 | e::r=>bif jE k [e]then e::r else kI k r
def kR(k:Nat):List eX→Bool
 | []=>false
 | e::r=>jE k [e]||kR k r
theorem JL(k:Nat):∀ l:List eX,kG k l++kI k l=l
 | []=>rfl
 | e::r=>by unfold kG kI;cases jE k [e]<;>simp[JL k r]
def iA(k:Nat)(S:List Nat):IR→IR
 | .ops l=>bif kR k l then .po S (kG k l) (kI k l)else .ops l
 | .seq a b=>.seq (iA k S a) (iA k S b)
 | .cond c a b=>.cond c (iA k S a) (iA k S b)
 | .block id live a=>.block id live (iA k S a)
 | .loop live a=>.loop live (iA k S a)
 | .fz S' a=>.fz S' (iA k S a)
 | c=>c
theorem th(k:Nat)(S:List Nat):∀ c:IR,iY (iA k S c)=iY c
 | .ops l=>by unfold iA;cases kR k l<;>simp[iY,JL]
 | .seq a b=>by simp only[iA,iY,th k S a,th k S b]
 | .cond c a b=>by simp only[iA,iY,th k S a,th k S b]
 | .block id live a=>by simp only[iA,iY,th k S a]
 | .loop live a=>by simp only[iA,iY,th k S a]
 | .fz S' a=>by simp only[iA,iY,th k S a]
 | .skip | .jY _ _ _ | .exit _ | .ret | .bad | .po _ _ _ | .eN _ _ | .jN _ _ _=>rfl
def eF(T:fH)(live:List Nat)(a:IR)(s:St)(K:gp)(_:Tag (live,a,s,K)):Prop:=Wc T (.loop live (iY a)) s K
def vm(T:fH)(rf:Nat)(live:List Nat)(x:X)(s:St)(K:gp)(_:Tag (live,x,s,K)):Prop:=Wc T (.jY rf live x) s K
@[irreducible] def qD(m S:List Nat):Bool:=m.all fun v => !S.contains v
theorem yW(m S:List Nat):qD m S=m.all fun v => !S.contains v:=by unfold qD;rfl
@[simp] theorem T0(S:List Nat):qD [] S=true:=by rw[yW];rfl
@[simp] theorem agW(v:Nat)(m S:List Nat):qD (v::m) S=(!decide (v∈S)&&qD m S):=by rw[yW,yW,List.all_cons,List.contains_eq_mem]
def E7:D→List Nat
 | .agg cs=>(cs.map (gD 0)).flatten
 | _=>[]
@[simp] theorem acL(cs:List D):E7 (.agg cs)=(cs.map (gD 0)).flatten:=rfl
def l5(env:Env):List Nat→List Nat
 | []=>[]
 | v::r=>if v<1000 then v::l5 env r else if v<2000 then gD 0 (env.get (v-1000))++l5 env r else E7 (env.get (v-2000))++l5 env r
@[simp] theorem afo(env:Env):l5 env [] = []:=rfl
@[simp] theorem afn(env:Env)(v:Nat)(r:List Nat):l5 env (v::r)=if v<1000 then v::l5 env r else if v<2000 then gD 0 (env.get (v-1000))++l5 env r else E7 (env.get (v-2000))++l5 env r:=rfl
def XC(T:fH):IR→St→gp→Prop
 | .skip,s,K=>K (.norm s)
 | .ops l,s,K=>XO T l s fun s'=>K (.norm s')
 | .eN gM l,s,K=>XT T l s fun rs s'=>pL gM rs=true∧K (.norm s')
 | .jN gM l es,s,K=>XT T l s fun rs s'=>pL gM rs=true∧XO T es s' fun s'=>K (.norm s')
 | .seq a b,s,K=>XC T a s fun o=>match o with
  | .norm s'=>XC T b s' K
  | o=>K o
 | .cond c a b,s,K=>XB (ev s.env.get c) (XC T a s K) (XC T b s K) .mk
 | .block id live a,s,K=>XC T a s fun o=>K (kc id s.H.length live o)
 | .loop live a,s,K=>eF T live a s K .mk
 | .jY rf live x,s,K=>vm T rf live x s K .mk
 | .exit id,s,K=>K (.exit id s)
 | .ret,s,K=>K (.ret s)
 | .bad,_,_=>False
 | .fz S a,s,K=>qD s.marks (l5 s.env S)=true∧XC T a (jk (l5 s.env S) s) K
 | .po S a b,s,K=>XO T a s fun s'=>qD s'.marks (l5 s'.env S)=true∧XO T b (jk (l5 s'.env S) s') fun s'=>K (.norm s')
def Ea(T:fH)(b:IR)(K:gp):gp:=fun o=>match o with
 | .norm s'=>XC T b s' K
 | o=>K o
def tv(id n:Nat)(live:List Nat)(K:gp):gp:=fun o=>K (kc id n live o)
section
variable{T:fH}
theorem Wc.jk{c:IR}{s:St}{K:gp}(S:List Nat)(hm:qD s.marks S=true)(h:Wc T c (jk S s) K):Wc T c s K:=Ev.xX S (by rwa [yW]at hm) h
theorem XC.wc:∀ {c:IR} {s:St} {K:gp},XC T c s K→Wc T (iY c) s K
 | .skip,s,K,h=>Wc.skip h
 | .ops l,s,K,h=>Wc.ops (XO.wo h)
 | .eN gM l,s,K,h=>Wc.eN (XT.wt h)
 | .jN gM l es,s,K,h=>Wc.jN (Ev.mono (XT.wt h) fun _ ⟨rs,s',q,k⟩=>⟨rs,s',q,k.1,XO.wo k.2⟩)
 | .seq a b,s,K,h=>Wc.seq ((XC.wc (c:=a) h).mono fun o ho=>by
  cases o with
  | norm s'=>exact XC.wc (c:=b) ho
  | exit=>exact ho
  | ret=>exact ho)
 | .cond _ _ _,_,_,h=>by
  obtain⟨x,hx,ht,hf⟩:=h
  exact Wc.cond x hx (fun e=>XC.wc (ht e)) fun e=>XC.wc (hf e)
 | .block _ _ _,_,_,h=>Wc.block (XC.wc h)
 | .loop live a,s,K,h=>h
 | .jY rf live x,s,K,h=>h
 | .exit id,s,K,h=>Wc.exit h
 | .ret,s,K,h=>Wc.ret h
 | .bad,s,K,h=>h.elim
 | .fz S a,s,K,h=>Wc.jk (l5 s.env S) h.1 (XC.wc (c:=a) h.2)
 | .po S a b,s,K,h=>Wc.ops (XO.qL (XO.mono h fun s' k=>Ev.jk (l5 s'.env S) (by have:=k.1;rwa [yW]at this) (XO.wo k.2)))
def o8(ds:List D):D:=match ds with
 | [d]=>d
 | ds=>.tup ds
@[simp] theorem aiI(d:D):o8 [d]=d:=rfl
@[simp] theorem aiJ(d e:D):o8 [d,e] = .tup [d,e]:=rfl
@[simp] theorem aiK(d e f:D):o8 [d,e,f] = .tup [d,e,f]:=rfl
@[simp] theorem aiH:o8 [] = .tup []:=rfl
def sB(rs:List p5)(own n:Nat)(K:D→et→Prop):gp:=fun o=>match o with
 | .norm s | .ret s=>oA (kill s.marks s.H) (fun H=>oA (o9 { s with H:=H } rs) (fun ds=>K (leave own n H (o8 ds)).1 (leave own n H (o8 ds)).2) .mk) .mk
 | .exit _ _=>False
theorem Wf.xz(own:Nat){f:FuncId}{args:List D}{H:et}{fn:eA}{K:D→et→Prop}(c:IR)(hf:T.fn f=some fn)(hl:args.length≤fn.ntmps)(hc:iY c=fn.body)
  (h:XC T c { env:=oC args,H:=H } (sB fn.results own H.length K)):Wf T f args H K:=by
 have key:∀ s:St,(oA (kill s.marks s.H) (fun H'=>oA (o9 { s with H:=H' } fn.results) (fun ds=>K (leave own H.length H' (o8 ds)).1 (leave own H.length H' (o8 ds)).2) .mk) .mk)→∃ d H',(match kill s.marks s.H with
  | some H1=>match results fn { s with H:=H1 }with
   | some d=>some (leave own H.length H1 d)
   | none=>none
  | none=>none)=some (d,H')∧K d H':=by
  rintro s ⟨H1,h1,ds,h2,hk⟩
  rw[h1]
  refine⟨_,_,?_,hk⟩
  unfold AL.results
  dsimp only
  rw[h2]
  cases ds with
  | nil=>rfl
  | cons a l=>cases l<;>rfl
 refine Wf.call own hf hl (hc▸(XC.wc h).mono fun o ho=>?_)
 cases o with
 | norm s=>exact key s ho
 | ret s=>exact key s ho
 | exit=>exact ho.elim
theorem Wf.xo(own:Nat){f:FuncId}{args:List D}{H:et}{fn:eA}{K:D→et→Prop}(hf:T.fn f=some fn)(hl:args.length≤fn.ntmps)
  (h:XC T fn.body { env:=oC args,H:=H } (sB fn.results own H.length K)) (hz:oE fn.body=true:=by rfl):Wf T f args H K:=Wf.xz own fn.body hf hl (mg hz) h
theorem Wf.x{f:FuncId}{args:List D}{H:et}{fn:eA}{K:D→et→Prop}(hf:T.fn f=some fn)(hl:args.length≤fn.ntmps)
  (h:XC T fn.body { env:=oC args,H:=H } (sB fn.results fn.own H.length K)) (hz:oE fn.body=true:=by rfl):Wf T f args H K:=Wf.xo fn.own hf hl h hz
theorem eU.is{f:FuncId}{args:List D}{dst:Option Nat}{s:St}{K:St→Prop}{fn:eA}{K0:D→et→Prop}(hf:T.fn f=some fn)(hp:fn.full=false)(h:Wf T f (args.map (eC (fun _=>none) s.H 40)) [] K0)
  (k:∀ d Hn,K0 d Hn→oA (after s dst args d Hn) K .mk):eU T f args dst s K .mk:=.inl ⟨fn,hf,hp,Wf.mono h k⟩
theorem eU.kC{f:FuncId}{args:List D}{dst:Option Nat}{s:St}{K:St→Prop}{fn:eA}{K0:D→et→Prop}(hf:T.fn f=some fn)(hp:fn.full=true)(h:Wf T f args s.H K0)
  (k:∀ d H',K0 d H'→K { s with env:=put s.env dst d,H:=H' }):eU T f args dst s K .mk:=.inr ⟨fn,hf,hp,Wf.mono h k⟩
theorem eU.c{f:FuncId}{args:List D}{dst:Option Nat}{s:St}{K:St→Prop}{fn:eA}{x:D}(hf:T.fn f=some fn)(hp:fn.full=false)(h:Wf T f args [] fun d H'=>d=x∧H' = [])
  (hc:eV args=true) (hx:closed x=true) (k:K { s with env:=put s.env dst x }):eU T f args dst s K .mk:=by
 refine eU.is hf hp (K0:=fun d H'=>d=x∧H' = []) ?_ ?_
 ·have e0:args.map (eC (fun _=>none) s.H 40)=args:=by
   conv=>rhs;rw[← aQ args]
   exact ak fun d hd=>lY (jM hc d hd)
  rw[e0];exact h
 ·rintro d Hn ⟨rfl,rfl⟩
  obtain⟨k1,k2⟩:=CF (H:=s.H) hx
  refine⟨{ s with env:=put s.env dst d },?_,k⟩
  unfold after
  rw[if_pos hc,k1,k2]
  simp
theorem eU.r{f:FuncId}{args mG:List D}{dst:Option Nat}{s:St}{K:St→Prop}{fn:eA}{x:D}(hf:T.fn f=some fn)(hp:fn.full=false)(h:Wf T f mG [] fun d H'=>d=x∧H' = [])
  (hs:args.map (eC (fun _=>none) s.H 40)=mG) (hx:flat x=true) (jO:closed x=true) (k:K { s with env:=put s.env dst x }):eU T f args dst s K .mk:=by
 refine eU.is hf hp (K0:=fun d H'=>d=x∧H' = []) (by rw[hs];exact h) ?_
 rintro d Hn ⟨rfl,rfl⟩
 obtain⟨k1,k2⟩:=CF (H:=s.H) jO
 refine⟨{ s with env:=put s.env dst d },?_,k⟩
 have:lV d=true:=(KJ (H:=s.H) hx).1
 unfold after
 rw[this,k1,k2]
 simp
theorem gq.c{f:FuncId}{args:List D}{R:List Fp}{dst:Option Nat}{s:St}{Q:Rc→St→Prop}{fn:eA}{x:D}(hf:T.fn f=some fn)(hp:fn.full=false)(h:Wf T f args [] fun d H'=>d=x∧H' = [])
  (hc:eV args=true) (hx:closed x=true) (k:Q ⟨R,[]⟩ { s with env:=put s.env dst x }):gq T f args R dst s Q .mk:=by
 refine⟨fn,x,hf,hp,?_,by rw[if_pos hc];exact hx,k⟩
 have e0:args.map (eC (fun _=>none) s.H 40)=args:=by
  conv=>rhs;rw[← aQ args]
  exact ak fun d hd=>lY (jM hc d hd)
 rw[e0];exact h
theorem gq.r{f:FuncId}{args mG:List D}{R:List Fp}{dst:Option Nat}{s:St}{Q:Rc→St→Prop}{fn:eA}{x:D}(hf:T.fn f=some fn)(hp:fn.full=false)(h:Wf T f mG [] fun d H'=>d=x∧H' = [])
  (hs:args.map (eC (fun _=>none) s.H 40)=mG) (hx:flat x=true) (jO:closed x=true) (k:Q ⟨R,[]⟩ { s with env:=put s.env dst x }):gq T f args R dst s Q .mk:=
 ⟨fn,x,hf,hp,by rw[hs];exact h,by split<;>assumption,k⟩
variable{s:St}{K:gp}{a b:IR}{l:List eX}{op:fY}{k j:Nat}
@[simp ↓] theorem aa3:XC T .skip s K=K (.norm s):=(rfl)
@[simp ↓] theorem aaZ:XC T (.ops l) s K=XO T l s fun s'=>K (.norm s'):=(rfl)
@[simp ↓] theorem aaT{gM:List (Nat×Nat)}:XC T (.eN gM l) s K=XT T l s fun rs s'=>pL gM rs=true∧K (.norm s'):=(rfl)
@[simp ↓] theorem aaU{gM:List (Nat×Nat)}{es:List eX}:XC T (.jN gM l es) s K=XT T l s fun rs s'=>pL gM rs=true∧XO T es s' fun s'=>K (.norm s'):=(rfl)
@[simp ↓] theorem aa2:XC T (.seq a b) s K=XC T a s (Ea T b K):=(rfl)
@[simp ↓] theorem aaS{c:X}:XC T (.cond c a b) s K=XB (ev s.env.get c) (XC T a s K) (XC T b s K) .mk:=(rfl)
@[simp ↓] theorem aaR{id:Nat}{live:List Nat}:XC T (.block id live a) s K=XC T a s (tv id s.H.length live K):=(rfl)
@[simp ↓] theorem aaY{live:List Nat}:XC T (.loop live a) s K=eF T live a s K .mk:=(rfl)
@[simp ↓] theorem aa0{rf:Nat}{live:List Nat}{x:X}:XC T (.jY rf live x) s K=vm T rf live x s K .mk:=(rfl)
@[simp ↓] theorem aaW{S:List Nat}:XC T (.fz S a) s K=(qD s.marks (l5 s.env S)=true∧XC T a (jk (l5 s.env S) s) K):=(rfl)
@[simp ↓] theorem aaX{S:List Nat}{x y:List eX}:XC T (.po S x y) s K=XO T x s fun s'=>qD s'.marks (l5 s'.env S)=true∧XO T y (jk (l5 s'.env S) s') fun s'=>K (.norm s'):=(rfl)
@[simp ↓] theorem aaV{id:Nat}:XC T (.exit id) s K=K (.exit id s):=(rfl)
@[simp ↓] theorem aa1:XC T .ret s K=K (.ret s):=(rfl)
@[simp ↓] theorem ag9:Ea T b K (.norm s)=XC T b s K:=(rfl)
@[simp ↓] theorem ag8{id:Nat}:Ea T b K (.exit id s)=K (.exit id s):=(rfl)
@[simp ↓] theorem aha:Ea T b K (.ret s)=K (.ret s):=(rfl)
@[simp ↓] theorem OI{id n:Nat}{live:List Nat}:tv id n live K (.norm s)=K (.norm (cut n live s)):=(rfl)
@[simp ↓] theorem ado{id n:Nat}{live:List Nat}:tv id n live K (.ret s)=K (.ret s):=(rfl)
@[simp ↓] theorem OJ{id n:Nat}{live:List Nat}:tv id n live K (.exit id s)=K (.norm (cut n live s)):=by simp[tv,kc]
@[simp ↓] theorem adn{id sX n:Nat}{live:List Nat}(h:sX≠id):tv id n live K (.exit sX s)=K (.exit sX s):=by simp[tv,kc,h]
@[simp ↓] theorem ae3{rs:List p5}{own n:Nat}{K:D→et→Prop}:sB rs own n K (.ret s)=oA (kill s.marks s.H) (fun H=>oA (o9 { s with H:=H } rs) (fun ds=>K (leave own n H (o8 ds)).1 (leave own n H (o8 ds)).2) .mk) .mk:=(rfl)
@[simp ↓] theorem ae2{rs:List p5}{own n:Nat}{K:D→et→Prop}:sB rs own n K (.norm s)=oA (kill s.marks s.H) (fun H=>oA (o9 { s with H:=H } rs) (fun ds=>K (leave own n H (o8 ds)).1 (leave own n H (o8 ds)).2) .mk) .mk:=(rfl)
@[simp ↓] theorem abb{K:St→Prop}:XO T [] s K=K s:=(rfl)
@[simp ↓] theorem abd{K:St→Prop}:XO T (o k op::l) s K=gf T op (some k) s fun s'=>XO T l s' K:=by
 simp[XO,guardOf]
@[simp ↓] theorem abf{K:St→Prop}:XO T (u op::l) s K=gf T op none s fun s'=>XO T l s' K:=by
 simp[XO,guardOf]
@[simp ↓] theorem abe{g:Bool}{K:St→Prop}:XO T (og j g k op::l) s K=XG (guardOf s.env.get (some (j,g))) (gf T op (some k) s fun s'=>XO T l s' K) (XO T l { s with env:=(k,.val undef)::s.env } K) .mk:=(rfl)
@[simp ↓] theorem abg{g:Bool}{K:St→Prop}:XO T (ug j g op::l) s K=XG (guardOf s.env.get (some (j,g))) (gf T op none s fun s'=>XO T l s' K) (XO T l s K) .mk:=(rfl)
@[simp ↓] theorem ab2{Q:List Rc→St→Prop}:XT T [] s Q=Q [] s:=(rfl)
@[simp ↓] theorem ab3{Q:List Rc→St→Prop}:XT T (o k op::l) s Q=gY T op (some k) s fun rc s'=>XT T l s' fun rs s2=>Q (rc::rs) s2:=by
 simp[XT,guardOf]
@[simp ↓] theorem ab5{Q:List Rc→St→Prop}:XT T (u op::l) s Q=gY T op none s fun rc s'=>XT T l s' fun rs s2=>Q (rc::rs) s2:=by
 simp[XT,guardOf]
@[simp ↓] theorem ab4{g:Bool}{Q:List Rc→St→Prop}:XT T (og j g k op::l) s Q=XG (guardOf s.env.get (some (j,g))) (gY T op (some k) s fun rc s'=>XT T l s' fun rs s2=>Q (rc::rs) s2) (XT T l { s with env:=(k,.val undef)::s.env } fun rs s2=>Q (⟨[],[]⟩::rs) s2) .mk:=(rfl)
@[simp ↓] theorem ab6{g:Bool}{Q:List Rc→St→Prop}:XT T (ug j g op::l) s Q=XG (guardOf s.env.get (some (j,g))) (gY T op none s fun rc s'=>XT T l s' fun rs s2=>Q (rc::rs) s2) (XT T l s fun rs s2=>Q (⟨[],[]⟩::rs) s2) .mk:=(rfl)
@[simp ↓] theorem agf{dst:Option Nat}{K:St→Prop}{d:D}{δ:Dl}:kp s dst K (d,δ)=K { s with env:=put s.env dst d,H:=δ.app s.H (Al.last s.H) }:=(rfl)
@[simp ↓] theorem agh{dst:Option Nat}{R:List Fp}{Q:Rc→St→Prop}{d:D}{δ:Dl}:kt s dst R Q (d,δ)=Q ⟨R,gT s.H.length δ⟩ { s with env:=put s.env dst d,H:=δ.app s.H (Al.last s.H) }:=(rfl)
section
variable{dst:Option Nat}{K:St→Prop}{Q:Rc→St→Prop}
@[simp ↓] theorem abP{x:X}:gf T (.mv x) dst s K=oA (eZ s.env.get s.H s.H.length (.mv x)) (kp s dst K) .mk:=(rfl)
@[simp ↓] theorem acD{x:X}:gY T (.mv x) dst s Q=oA (eZ s.env.get s.H s.H.length (.mv x)) (kt s dst (e7 s.env.get s.H (.mv x)) Q) .mk:=(rfl)
@[simp ↓] theorem abU{c a b:X}:gf T (.pick c a b) dst s K=oA (eZ s.env.get s.H s.H.length (.pick c a b)) (kp s dst K) .mk:=(rfl)
@[simp ↓] theorem acF{c a b:X}:gY T (.pick c a b) dst s Q=oA (eZ s.env.get s.H s.H.length (.pick c a b)) (kt s dst (e7 s.env.get s.H (.pick c a b)) Q) .mk:=(rfl)
@[simp ↓] theorem abm{t:TypeId}{x:X}:gf T (.box t x) dst s K=oA (eZ s.env.get s.H s.H.length (.box t x)) (kp s dst K) .mk:=(rfl)
@[simp ↓] theorem acb{t:TypeId}{x:X}:gY T (.box t x) dst s Q=oA (eZ s.env.get s.H s.H.length (.box t x)) (kt s dst (e7 s.env.get s.H (.box t x)) Q) .mk:=(rfl)
@[simp ↓] theorem abh{t:TypeId}{z:List D}:gf T (.alloc t z) dst s K=oA (eZ s.env.get s.H s.H.length (.alloc t z)) (kp s dst K) .mk:=(rfl)
@[simp ↓] theorem ab7{t:TypeId}{z:List D}:gY T (.alloc t z) dst s Q=oA (eZ s.env.get s.H s.H.length (.alloc t z)) (kt s dst (e7 s.env.get s.H (.alloc t z)) Q) .mk:=(rfl)
@[simp ↓] theorem abn{z:List D}{ps:List (Nat×Nat×X)}:gf T (.build z ps) dst s K=oA (eZ s.env.get s.H s.H.length (.build z ps)) (kp s dst K) .mk:=(rfl)
@[simp ↓] theorem acd{z:List D}{ps:List (Nat×Nat×X)}:gY T (.build z ps) dst s Q=oA (eZ s.env.get s.H s.H.length (.build z ps)) (kt s dst (e7 s.env.get s.H (.build z ps)) Q) .mk:=(rfl)
@[simp ↓] theorem abo{t sz:Nat}{z:List D}{n:Nat}{ps:List (Nat×X)}:gf T (.buildSl t sz z n ps) dst s K=oA (eZ s.env.get s.H s.H.length (.buildSl t sz z n ps)) (kp s dst K) .mk:=(rfl)
@[simp ↓] theorem ace{t sz:Nat}{z:List D}{n:Nat}{ps:List (Nat×X)}:gY T (.buildSl t sz z n ps) dst s Q=oA (eZ s.env.get s.H s.H.length (.buildSl t sz z n ps)) (kt s dst (e7 s.env.get s.H (.buildSl t sz z n ps)) Q) .mk:=(rfl)
@[simp ↓] theorem abG{x:X}:gf T (.ld1 x) dst s K=oA (eZ s.env.get s.H s.H.length (.ld1 x)) (kp s dst K) .mk:=(rfl)
@[simp ↓] theorem acu{x:X}:gY T (.ld1 x) dst s Q=oA (eZ s.env.get s.H s.H.length (.ld1 x)) (kt s dst (e7 s.env.get s.H (.ld1 x)) Q) .mk:=(rfl)
@[simp ↓] theorem abH{n:Nat}{x:X}:gf T (.ldN n x) dst s K=oA (eZ s.env.get s.H s.H.length (.ldN n x)) (kp s dst K) .mk:=(rfl)
@[simp ↓] theorem acv{n:Nat}{x:X}:gY T (.ldN n x) dst s Q=oA (eZ s.env.get s.H s.H.length (.ldN n x)) (kt s dst (e7 s.env.get s.H (.ldN n x)) Q) .mk:=(rfl)
@[simp ↓] theorem abZ{a x:X}:gf T (.st1 a x) dst s K=oA (eZ s.env.get s.H s.H.length (.st1 a x)) (kp s dst K) .mk:=(rfl)
@[simp ↓] theorem acI{a x:X}:gY T (.st1 a x) dst s Q=oA (eZ s.env.get s.H s.H.length (.st1 a x)) (kt s dst (e7 s.env.get s.H (.st1 a x)) Q) .mk:=(rfl)
@[simp ↓] theorem ab0{n:Nat}{a x:X}:gf T (.stN n a x) dst s K=oA (eZ s.env.get s.H s.H.length (.stN n a x)) (kp s dst K) .mk:=(rfl)
@[simp ↓] theorem acJ{n:Nat}{a x:X}:gY T (.stN n a x) dst s Q=oA (eZ s.env.get s.H s.H.length (.stN n a x)) (kt s dst (e7 s.env.get s.H (.stN n a x)) Q) .mk:=(rfl)
@[simp ↓] theorem abT{x:X}:gf T (.nilck x) dst s K=oA (eZ s.env.get s.H s.H.length (.nilck x)) (kp s dst K) .mk:=(rfl)
@[simp ↓] theorem acE{x:X}:gY T (.nilck x) dst s Q=oA (eZ s.env.get s.H s.H.length (.nilck x)) (kt s dst (e7 s.env.get s.H (.nilck x)) Q) .mk:=(rfl)
@[simp ↓] theorem abk{op:BinOp}{x y:X}:gf T (.arith op x y) dst s K=oA (eZ s.env.get s.H s.H.length (.arith op x y)) (kp s dst K) .mk:=(rfl)
@[simp ↓] theorem ab9{op:BinOp}{x y:X}:gY T (.arith op x y) dst s Q=oA (eZ s.env.get s.H s.H.length (.arith op x y)) (kt s dst (e7 s.env.get s.H (.arith op x y)) Q) .mk:=(rfl)
@[simp ↓] theorem aby{gN:Bool}{ls:List lH}{neg:Bool}{x y:X}:gf T (.eqS gN ls neg x y) dst s K=oA (eZ s.env.get s.H s.H.length (.eqS gN ls neg x y)) (kp s dst K) .mk:=(rfl)
@[simp ↓] theorem ack{gN:Bool}{ls:List lH}{neg:Bool}{x y:X}:gY T (.eqS gN ls neg x y) dst s Q=oA (eZ s.env.get s.H s.H.length (.eqS gN ls neg x y)) (kt s dst (e7 s.env.get s.H (.eqS gN ls neg x y)) Q) .mk:=(rfl)
@[simp ↓] theorem ab1{op:UnOp}{x:X}:gf T (.un op x) dst s K=oA (eZ s.env.get s.H s.H.length (.un op x)) (kp s dst K) .mk:=(rfl)
@[simp ↓] theorem acK{op:UnOp}{x:X}:gY T (.un op x) dst s Q=oA (eZ s.env.get s.H s.H.length (.un op x)) (kt s dst (e7 s.env.get s.H (.un op x)) Q) .mk:=(rfl)
@[simp ↓] theorem abv{k:IntKind}{x:X}:gf T (.conv k x) dst s K=oA (eZ s.env.get s.H s.H.length (.conv k x)) (kp s dst K) .mk:=(rfl)
@[simp ↓] theorem aci{k:IntKind}{x:X}:gY T (.conv k x) dst s Q=oA (eZ s.env.get s.H s.H.length (.conv k x)) (kt s dst (e7 s.env.get s.H (.conv k x)) Q) .mk:=(rfl)
@[simp ↓] theorem abl{x:X}:gf T (.b2s x) dst s K=oA (eZ s.env.get s.H s.H.length (.b2s x)) (kp s dst K) .mk:=(rfl)
@[simp ↓] theorem aca{x:X}:gY T (.b2s x) dst s Q=oA (eZ s.env.get s.H s.H.length (.b2s x)) (kt s dst (e7 s.env.get s.H (.b2s x)) Q) .mk:=(rfl)
@[simp ↓] theorem abM{fn:Fn}{first captured:List X}:gf T (.mkfn fn first captured) dst s K=oA (eZ s.env.get s.H s.H.length (.mkfn fn first captured)) (kp s dst K) .mk:=(rfl)
@[simp ↓] theorem acA{fn:Fn}{first captured:List X}:gY T (.mkfn fn first captured) dst s Q=oA (eZ s.env.get s.H s.H.length (.mkfn fn first captured)) (kt s dst (e7 s.env.get s.H (.mkfn fn first captured)) Q) .mk:=(rfl)
@[simp ↓] theorem abN{kk:KK}:gf T (.mkmap kk) dst s K=oA (eZ s.env.get s.H s.H.length (.mkmap kk)) (kp s dst K) .mk:=(rfl)
@[simp ↓] theorem acB{kk:KK}:gY T (.mkmap kk) dst s Q=oA (eZ s.env.get s.H s.H.length (.mkmap kk)) (kt s dst (e7 s.env.get s.H (.mkmap kk)) Q) .mk:=(rfl)
@[simp ↓] theorem abO{t sz bytes:Nat}{z:List D}{l c:X}:gf T (.mksl t sz bytes z l c) dst s K=oA (eZ s.env.get s.H s.H.length (.mksl t sz bytes z l c)) (kp s dst K) .mk:=(rfl)
@[simp ↓] theorem acC{t sz bytes:Nat}{z:List D}{l c:X}:gY T (.mksl t sz bytes z l c) dst s Q=oA (eZ s.env.get s.H s.H.length (.mksl t sz bytes z l c)) (kt s dst (e7 s.env.get s.H (.mksl t sz bytes z l c)) Q) .mk:=(rfl)
@[simp ↓] theorem abX{sz:Nat}{x:X}{lo hi:Option X}:gf T (.slc sz x lo hi) dst s K=oA (eZ s.env.get s.H s.H.length (.slc sz x lo hi)) (kp s dst K) .mk:=(rfl)
@[simp ↓] theorem acG{sz:Nat}{x:X}{lo hi:Option X}:gY T (.slc sz x lo hi) dst s Q=oA (eZ s.env.get s.H s.H.length (.slc sz x lo hi)) (kt s dst (e7 s.env.get s.H (.slc sz x lo hi)) Q) .mk:=(rfl)
@[simp ↓] theorem abY{x:X}{lo hi:Option X}:gf T (.slcS x lo hi) dst s K=oA (eZ s.env.get s.H s.H.length (.slcS x lo hi)) (kp s dst K) .mk:=(rfl)
@[simp ↓] theorem acH{x:X}{lo hi:Option X}:gY T (.slcS x lo hi) dst s Q=oA (eZ s.env.get s.H s.H.length (.slcS x lo hi)) (kt s dst (e7 s.env.get s.H (.slcS x lo hi)) Q) .mk:=(rfl)
@[simp ↓] theorem abB{off:Nat}{x:X}:gf T (.fieldA off x) dst s K=oA (eZ s.env.get s.H s.H.length (.fieldA off x)) (kp s dst K) .mk:=(rfl)
@[simp ↓] theorem aco{off:Nat}{x:X}:gY T (.fieldA off x) dst s Q=oA (eZ s.env.get s.H s.H.length (.fieldA off x)) (kt s dst (e7 s.env.get s.H (.fieldA off x)) Q) .mk:=(rfl)
@[simp ↓] theorem abA{off n:Nat}{gN:Bool}{x:X}:gf T (.field off n gN x) dst s K=oA (eZ s.env.get s.H s.H.length (.field off n gN x)) (kp s dst K) .mk:=(rfl)
@[simp ↓] theorem acn{off n:Nat}{gN:Bool}{x:X}:gY T (.field off n gN x) dst s Q=oA (eZ s.env.get s.H s.H.length (.field off n gN x)) (kt s dst (e7 s.env.get s.H (.field off n gN x)) Q) .mk:=(rfl)
@[simp ↓] theorem abD{sz:Nat}{x i:X}:gf T (.idxA sz x i) dst s K=oA (eZ s.env.get s.H s.H.length (.idxA sz x i)) (kp s dst K) .mk:=(rfl)
@[simp ↓] theorem acq{sz:Nat}{x i:X}:gY T (.idxA sz x i) dst s Q=oA (eZ s.env.get s.H s.H.length (.idxA sz x i)) (kt s dst (e7 s.env.get s.H (.idxA sz x i)) Q) .mk:=(rfl)
@[simp ↓] theorem abE{sz n:Nat}{x i:X}:gf T (.idxArr sz n x i) dst s K=oA (eZ s.env.get s.H s.H.length (.idxArr sz n x i)) (kp s dst K) .mk:=(rfl)
@[simp ↓] theorem acr{sz n:Nat}{x i:X}:gY T (.idxArr sz n x i) dst s Q=oA (eZ s.env.get s.H s.H.length (.idxArr sz n x i)) (kt s dst (e7 s.env.get s.H (.idxArr sz n x i)) Q) .mk:=(rfl)
@[simp ↓] theorem abC{sz n:Nat}{gN:Bool}{x i:X}:gf T (.idx sz n gN x i) dst s K=oA (eZ s.env.get s.H s.H.length (.idx sz n gN x i)) (kp s dst K) .mk:=(rfl)
@[simp ↓] theorem acp{sz n:Nat}{gN:Bool}{x i:X}:gY T (.idx sz n gN x i) dst s Q=oA (eZ s.env.get s.H s.H.length (.idx sz n gN x i)) (kt s dst (e7 s.env.get s.H (.idx sz n gN x i)) Q) .mk:=(rfl)
@[simp ↓] theorem abF{x i:X}:gf T (.idxStr x i) dst s K=oA (eZ s.env.get s.H s.H.length (.idxStr x i)) (kp s dst K) .mk:=(rfl)
@[simp ↓] theorem acs{x i:X}:gY T (.idxStr x i) dst s Q=oA (eZ s.env.get s.H s.H.length (.idxStr x i)) (kt s dst (e7 s.env.get s.H (.idxStr x i)) Q) .mk:=(rfl)
@[simp ↓] theorem abJ{kk:KK}{z:D}{ok:Bool}{m k:X}:gf T (.lookup kk z ok m k) dst s K=oA (eZ s.env.get s.H s.H.length (.lookup kk z ok m k)) (kp s dst K) .mk:=(rfl)
@[simp ↓] theorem acx{kk:KK}{z:D}{ok:Bool}{m k:X}:gY T (.lookup kk z ok m k) dst s Q=oA (eZ s.env.get s.H s.H.length (.lookup kk z ok m k)) (kt s dst (e7 s.env.get s.H (.lookup kk z ok m k)) Q) .mk:=(rfl)
@[simp ↓] theorem abK{kk:KK}{m k v:X}:gf T (.mapUpd kk m k v) dst s K=oA (eZ s.env.get s.H s.H.length (.mapUpd kk m k v)) (kp s dst K) .mk:=(rfl)
@[simp ↓] theorem acy{kk:KK}{m k v:X}:gY T (.mapUpd kk m k v) dst s Q=oA (eZ s.env.get s.H s.H.length (.mapUpd kk m k v)) (kt s dst (e7 s.env.get s.H (.mapUpd kk m k v)) Q) .mk:=(rfl)
@[simp ↓] theorem abz{x:X}{i:Nat}:gf T (.ext x i) dst s K=oA (eZ s.env.get s.H s.H.length (.ext x i)) (kp s dst K) .mk:=(rfl)
@[simp ↓] theorem acm{x:X}{i:Nat}:gY T (.ext x i) dst s Q=oA (eZ s.env.get s.H s.H.length (.ext x i)) (kt s dst (e7 s.env.get s.H (.ext x i)) Q) .mk:=(rfl)
@[simp ↓] theorem abp{f:FuncId}{args:List X}:gf T (.call f args) dst s K=eU T f (args.map (ev s.env.get)) dst s K .mk:=(rfl)
@[simp ↓] theorem acf{f:FuncId}{args:List X}:gY T (.call f args) dst s Q=gq T f (args.map (ev s.env.get)) (e7 s.env.get s.H (.call f args)) dst s Q .mk:=(rfl)
@[simp ↓] theorem abq{f:FuncId}{args:List X}:gf T (.callN f args) dst s K=eU T f (args.map (ev s.env.get)) dst s K .mk:=(rfl)
@[simp ↓] theorem acg{f:FuncId}{args:List X}:gY T (.callN f args) dst s Q=pe T f (args.map (ev s.env.get)) (e7 s.env.get s.H (.callN f args)) dst s Q .mk:=(rfl)
@[simp ↓] theorem abr{f:X}{args:List X}:gf T (.callv f args) dst s K=p7 T (ev s.env.get f) (args.map (ev s.env.get)) dst s K .mk:=(rfl)
@[simp] theorem aa4{k:FuncId}{first cap args:List D}:p7 T (.fn (.func k) first cap) args dst s K .mk=eU T k (first++args++cap) dst s K .mk:=by
 show oA (some (k,first++args++cap)) (fun p=>eU T p.1 p.2 dst s K .mk) .mk=_
 simp only[uM]
@[simp] theorem aa5{v:Nat}{args:List D}:p7 T (.gy v) args dst s K .mk=nW T v args dst s K .mk:=(rfl)
@[simp ↓] theorem ach{f:X}{args:List X}:gY T (.callv f args) dst s Q=oA (iw s.env.get (.callv f args)) (fun p=>gq T p.1 p.2 (e7 s.env.get s.H (.callv f args)) dst s Q .mk) .mk:=(rfl)
@[simp ↓] theorem abi{t sz bytes:Nat}{x y:X}:gf T (.app t sz bytes x y) dst s K=oA (eZ s.env.get s.H s.H.length (.app t sz bytes x y)) (kp s dst K) .mk:=(rfl)
@[simp ↓] theorem ab8{t sz bytes:Nat}{x y:X}:gY T (.app t sz bytes x y) dst s Q=oA (eZ s.env.get s.H s.H.length (.app t sz bytes x y)) (kt s dst (e7 s.env.get s.H (.app t sz bytes x y)) Q) .mk:=(rfl)
@[simp ↓] theorem abw{sz:Nat}{x y:X}:gf T (.copy sz x y) dst s K=oA (eZ s.env.get s.H s.H.length (.copy sz x y)) (kp s dst K) .mk:=(rfl)
@[simp ↓] theorem acj{sz:Nat}{x y:X}:gY T (.copy sz x y) dst s Q=oA (eZ s.env.get s.H s.H.length (.copy sz x y)) (kt s dst (e7 s.env.get s.H (.copy sz x y)) Q) .mk:=(rfl)
@[simp ↓] theorem abI{k:tm}{x:X}:gf T (.len k x) dst s K=oA (eZ s.env.get s.H s.H.length (.len k x)) (kp s dst K) .mk:=(rfl)
@[simp ↓] theorem acw{k:tm}{x:X}:gY T (.len k x) dst s Q=oA (eZ s.env.get s.H s.H.length (.len k x)) (kt s dst (e7 s.env.get s.H (.len k x)) Q) .mk:=(rfl)
@[simp ↓] theorem abL{isMax:Bool}{xs:List X}:gf T (.minmax isMax xs) dst s K=oA (eZ s.env.get s.H s.H.length (.minmax isMax xs)) (kp s dst K) .mk:=(rfl)
@[simp ↓] theorem acz{isMax:Bool}{xs:List X}:gY T (.minmax isMax xs) dst s Q=oA (eZ s.env.get s.H s.H.length (.minmax isMax xs)) (kt s dst (e7 s.env.get s.H (.minmax isMax xs)) Q) .mk:=(rfl)
@[simp ↓] theorem abS{neg:Bool}{x:X}:gf T (.nilS neg x) dst s K=oA (jZ s.env.get s.H s.H.length (.nilS neg x)) (kp s dst K) .mk:=(rfl)
@[simp ↓] theorem abt{x:X}:gf T (.capE x) dst s K=oA (jZ s.env.get s.H s.H.length (.capE x)) (kp s dst K) .mk:=(rfl)
@[simp ↓] theorem abj{t sz bytes:Nat}{z:List D}{x n:X}:gf T (.appZ t sz bytes z x n) dst s K=oA (jZ s.env.get s.H s.H.length (.appZ t sz bytes z x n)) (kp s dst K) .mk:=(rfl)
@[simp ↓] theorem abu{sz:Nat}{z:List D}{x:X}:gf T (.clr sz z x) dst s K=oA (jZ s.env.get s.H s.H.length (.clr sz z x)) (kp s dst K) .mk:=(rfl)
@[simp ↓] theorem abW{x:X}:gf T (.rangeS x) dst s K=oA (jZ s.env.get s.H s.H.length (.rangeS x)) (kp s dst K) .mk:=(rfl)
@[simp ↓] theorem abR{x:X}:gf T (.nextS x) dst s K=oA (jZ s.env.get s.H s.H.length (.nextS x)) (kp s dst K) .mk:=(rfl)
@[simp ↓] theorem abV{x:X}:gf T (.rangeM x) dst s K=oA (jZ s.env.get s.H s.H.length (.rangeM x)) (kp s dst K) .mk:=(rfl)
@[simp ↓] theorem abQ{x:X}:gf T (.nextM x) dst s K=vj (ev s.env.get x) dst s K .mk:=(rfl)
@[simp ↓] theorem abx{x:X}:gf T (.entry x) dst s K=oA (jZ s.env.get s.H s.H.length (.entry x)) (kp s dst K) .mk:=(rfl)
end
end
def uG(n:Nat)(live keys:List Nat)(J:Env→et→List Nat→Bool→Prop)(K:gp):gp:=fun o=>match o with
 | .norm s=>J (forget keys (cut n live s).env) (cut n live s).H (cut n live s).marks (cut n live s).fV
 | o=>K o
@[simp ↓] theorem TY{n:Nat}{live keys:List Nat}{J:Env→et→List Nat→Bool→Prop}{K:gp}{s:St}:uG n live keys J K (.norm s)=J (forget keys (cut n live s).env) (cut n live s).H (cut n live s).marks (cut n live s).fV:=(rfl)
@[simp ↓] theorem agP{n:Nat}{live keys:List Nat}{J:Env→et→List Nat→Bool→Prop}{K:gp}{id:Nat}{s:St}:uG n live keys J K (.exit id s)=K (.exit id s):=(rfl)
@[simp ↓] theorem agQ{n:Nat}{live keys:List Nat}{J:Env→et→List Nat→Bool→Prop}{K:gp}{s:St}:uG n live keys J K (.ret s)=K (.ret s):=(rfl)
theorem eF.i{T:fH}{live:List Nat}{a:IR}{s:St}{K:gp}{α:Type}(keys:List Nat)(um:(keys.all fun k=>live.contains k)=true)(E:α→Env)(Hp:α→et)(P:α→Prop)(μ:α→Nat)(x0:α)
  (h0:P x0) (hE:forget keys s.env=E x0) (hH:s.H=Hp x0)
  (h:∀ x,P x→XC T a { env:=E x,H:=Hp x,marks:=s.marks,fV:=s.fV } (uG s.H.length live keys (fun e H m r=>∃ x',e=E x'∧H=Hp x'∧m=s.marks∧r=s.fV∧μ x'<μ x∧P x') K)):eF T live a s K .mk:=by
 refine Wc.loop (fun m s'=>∃ x,P x∧m=μ x∧({ s' with env:=forget keys s'.env }:St) = { env:=E x,H:=Hp x,marks:=s.marks,fV:=s.fV }) (μ x0) ⟨x0,h0,rfl,?_⟩ ?_
 ·dsimp only
  rw[Qr um,hE]
  rw[← hH]
 ·rintro m s' ⟨x,hP,rfl,he⟩
  refine Ev.C7 keys ?_
  rw[he]
  refine(XC.wc (h x hP)).mono fun o ho=>?_
  cases o with
  | norm zF=>
   obtain⟨x',h3,h4,h5,h6,h2,h1⟩:=ho
   refine⟨μ x',h2,x',h1,rfl,?_⟩
   rw[h3]
   generalize cut s.H.length live zF=q at *
   cases q
   simp_all
  | exit=>exact ho
  | ret=>exact ho
theorem eF.j{T:fH}{live:List Nat}{a:IR}{s:St}{K:gp}{α:Type}(x0:α)(E:α→Env)(Hp:α→et)(P:α→Prop)(μ:α→Nat)
  (h0:P x0) (hE:forget ((E x0).map (·.1)) s.env=E x0) (hH:s.H=Hp x0) (um:(((E x0).map (·.1)).all fun k=>live.contains k)=true)
  (h:∀ x,P x→XC T a { env:=E x,H:=Hp x,marks:=s.marks,fV:=s.fV } (uG s.H.length live ((E x0).map (·.1)) (fun e H m r=>∃ x',e=E x'∧H=Hp x'∧m=s.marks∧r=s.fV∧μ x'<μ x∧P x') K)):eF T live a s K .mk:=
 eF.i ((E x0).map (·.1)) um E Hp P μ x0 h0 hE hH h
@[simp] theorem aeK{n:Nat}{live:List Nat}{env:Env}{H:et}{m:List Nat}{r:Bool}(h:H.length≤n):cut n live { env:=env,H:=H,marks:=m,fV:=r } = { env:=forget live env,H:=H,marks:=m,fV:=r }:=Fy h
def Is(x:D):D→et→Prop:=fun d Hn=>d=x∧Hn = []
@[simp] theorem aaF(x d:D)(H:et):Is x d H=(d=x∧H = []):=rfl
@[simp] theorem aij(x:Bool)(a b:D):uP (.b x) a b=some (cond x a b):=by cases x<;>rfl
@[simp] theorem ahw(c:Bool)(a b d e:D)(P:D→Prop):oA (uP (bif c then a else b) d e) P .mk=X2 c (oA (uP a d e) P .mk) (oA (uP b d e) P .mk) .mk:=by cases c<;>simp
@[simp] theorem TI{n:Nat}{H:et}{d:D}(h:H.length≤n)(own:Nat):leave own n H d=(d,H):=by
 unfold leave;rw[if_pos h]
section
variable{P:D→Prop}{a b:Int}
@[simp] theorem ahh:oA (ij .add .i64 a b) P .mk=(kL (a+b)∧P (.i (a+b))):=by simp only[ij,if_true];rw[wy,uM]
@[simp] theorem ahB:oA (ij .sub .i64 a b) P .mk=(kL (a-b)∧P (.i (a-b))):=by simp only[ij,if_true];rw[wy,uM]
@[simp] theorem ahv:oA (ij .mul .i64 a b) P .mk=(kL (a*b)∧P (.i (a*b))):=by simp only[ij,if_true];rw[wy,uM]
end
def wD(a b:Int):Int:=IntKind.i64.wrap (a.tdiv b)
def eO(a b:Int):Int:=a.tmod b
theorem mU{n:Int}(h:kL n):IntKind.i64.wrap n=n:=by
 unfold kL at h
 simp only[IntKind.wrap,IntKind.bits,IntKind.signed]
 simp
 omega
theorem wE{a b:Int}(h0:0≤a)(h1:a≤9223372036854775807)(hb:0<b):wD a b=a / b:=by
 unfold wD
 rw[Int.tdiv_eq_ediv_of_nonneg h0,mU]
 have h2:0≤a / b:=Int.ediv_nonneg h0 (by omega)
 have h3:a / b≤a:=Int.ediv_le_self b h0
 exact⟨by omega,by omega⟩
theorem jo{a b:Int}(h0:0≤a):eO a b=a % b:=Int.tmod_eq_emod_of_nonneg h0
section
variable{P:D→Prop}{a b:Int}{t:Tag P}
@[simp] theorem ahx:oA (ij .quo .i64 a b) P t=(b≠0∧P (.i (wD a b))):=by
 cases t
 simp only[ij]
 by_cases h:b=0<;>simp[h,wD]
@[simp] theorem ahz:oA (ij .rem .i64 a b) P t=(b≠0∧P (.i (eO a b))):=by
 cases t
 simp only[ij]
 by_cases h:b=0<;>simp[h,eO]
end
@[simp] theorem afJ(n:Int):kL n=(-9223372036854775808≤n∧n≤9223372036854775807):=rfl
def gt{α:Type}[Inhabited α](l:List α)(n:Int):α:=l.getD n.toNat default
theorem eH{α:Type}[Inhabited α]{l:List α}{n:Int}(h0:0≤n)(h:n<l.length):gt l n∈l:=by
 unfold gt
 rw[List.getD_eq_getElem?_getD,List.getElem?_eq_getElem (by omega),aR]
 exact bz _
theorem lP{α:Type}[Inhabited α]{l:List α}{n:Int}(h0:0≤n)(h:n<l.length):gt l n=l[n.toNat]:=by
 unfold gt
 rw[List.getD_eq_getElem?_getD,List.getElem?_eq_getElem (by omega),aR]
theorem Dc{α:Type}[Inhabited α]{l:List α}{n:Nat}(h:n<l.length):gt l n=l[n]:=lP (by omega) (by omega)
theorem gj{α:Type}[Inhabited α]{l:List α}{n:Int}(h0:0≤n)(h:n<l.length):l.take (n+1).toNat=l.take n.toNat ++ [gt l n]:=by
 rw[lP h0 h,← List.take_succ_eq_append_getElem (by omega)]
 congr 1;omega
theorem kP{α:Type}[Inhabited α]{l:List α}{n:Int}(h0:0≤n)(h:n<l.length):l.drop n.toNat=gt l n::l.drop (n.toNat+1):=by
 rw[lP h0 h];exact bU (by omega)
theorem oB{α:Type}[Inhabited α]{l:List α}{x:α}:x∈l↔∃ n:Int,0≤n∧n<l.length∧gt l n=x:=by
 constructor
 ·intro h
  obtain⟨i,hi,e⟩:=List.getElem_of_mem h
  exact⟨i,by omega,by omega,by rw[Dc hi,e]⟩
 ·rintro⟨n,h0,h1,rfl⟩
  exact eH h0 h1
theorem iH{α:Type}{l:List α}{n:Int}(h:(l.length:Int)≤n):l.take n.toNat=l:=aG (by omega)
section
variable{α:Type}[Inhabited α]{sz:Nat}{f:α→List D}{P:D→Prop}{k:IntKind}
theorem rJ{l:List α}{n:Int}:oA (lE sz (.sl sz (l.map f)) (.val (.int k n))) P .mk=((0≤n∧n<l.length)∧P (.eG (f (gt l n)))):=by
 simp only[lE,List.length_map,true_and,wy,uM]
 refine propext ⟨fun⟨h,hp⟩=>⟨h,?_⟩,fun⟨h,hp⟩=>⟨h,?_⟩⟩
 ·rw[List.getD_eq_getElem?_getD,ar,List.getElem?_eq_getElem (by omega),a8,aR]at hp
  unfold gt
  rw[List.getD_eq_getElem?_getD,List.getElem?_eq_getElem (by omega),aR]
  exact hp
 ·rw[List.getD_eq_getElem?_getD,ar,List.getElem?_eq_getElem (by omega),a8,aR]
  unfold gt at hp
  rw[List.getD_eq_getElem?_getD,List.getElem?_eq_getElem (by omega),aR]at hp
  exact hp
@[simp] theorem ahl{l:List α}{n:Int}:oA (lE sz (.sl sz (l.map f)) (.val (.int k n))) P .mk=((0≤n∧n<l.length)∧P (.eG (f (gt l n)))):=rJ
@[simp] theorem ahk{l:List Int}{n:Int}:oA (lE 1 (dI l) (.val (.int k n))) P .mk=((0≤n∧n<l.length)∧P (.eG [.i (gt l n)])):=by unfold dI;rw[rJ,sA]
@[simp] theorem ahq{l:List Pos}{n:Int}:oA (lE 5 (fh l) (.val (.int k n))) P .mk=((0≤n∧n<l.length)∧P (.eG (gt l n).cells)):=rJ
@[simp] theorem ahp{l:List eI}{n:Int}:oA (lE 2 (ft l) (.val (.int k n))) P .mk=((0≤n∧n<l.length)∧P (.eG [.i (gt l n).1,.i (gt l n).2])):=by unfold ft;rw[rJ,FN]
@[simp] theorem ahn{l:List α}{n:Int}:oA (lE sz (dN sz f l) (.val (.int k n))) P .mk=((0≤n∧n<l.length)∧P (.eG (f (gt l n)))):=by
 cases l with
 | nil=>
  simp only[dN,lE,MZ,cw]
  refine propext ⟨fun h=>h.elim,fun⟨h,_⟩=>?_⟩
  have:=h.1;have:=h.2;simp at this;omega
 | cons a l=>exact rJ
end
def zG(H:et)(k:Nat)(ρ:Nat→Option Nat)(v g sz off n:Nat):Option Nat→D
 | some v'=>.eu v' g sz off n
 | none=>match rowAt H v g with
  | some (_,cs)=>if (off+n)*sz≤cs.length then .sl sz (chunks sz n ((cs.drop (off*sz)).map (eC ρ H k)))else .any
  | none=>.any
@[simp] theorem ZO(ρ:Nat→Option Nat)(H:et)(k v g sz off n:Nat):eC ρ H (k+1) (.eu v g sz off n)=zG H k ρ v g sz off n (ρ v):=by
 rw[eC,if_neg (by simp[closed])]
 unfold zG;rfl
@[simp] theorem ZJ(H:et)(k:Nat)(ρ:Nat→Option Nat)(v g sz off n v':Nat):zG H k ρ v g sz off n (some v') = .eu v' g sz off n:=rfl
def zH(H:et)(k:Nat)(ρ:Nat→Option Nat)(v g off:Nat):Option Nat→D
 | some v'=>.ptr v' g off
 | none=>match rowAt H v g with
  | some (_,cs)=>.eG ((cs.drop off).map (eC ρ H k))
  | none=>.any
@[simp] theorem ZP(ρ:Nat→Option Nat)(H:et)(k v g off:Nat):eC ρ H (k+1) (.ptr v g off)=zH H k ρ v g off (ρ v):=by
 rw[eC,if_neg (by simp[closed])]
 unfold zH;rfl
@[simp] theorem ZK(H:et)(k:Nat)(ρ:Nat→Option Nat)(v g off v':Nat):zH H k ρ v g off (some v') = .ptr v' g off:=rfl
def EC:Option Nat→D
 | some v'=>.fC v'
 | none=>.any
@[simp] theorem ZN(ρ:Nat→Option Nat)(H:et)(k v:Nat):eC ρ H (k+1) (.fC v)=EC (ρ v):=by
 rw[eC,if_neg (by simp[closed])]
 unfold EC;rfl
@[simp] theorem ZH(v:Nat):EC (some v) = .fC v:=rfl
@[simp] theorem aiY:EC none = .any:=rfl
@[simp] theorem ai9{ρ:Nat→Option Nat}{H:et}{k:Nat}{d:D}(h:closed d=true):eC ρ H k d=d:=lY h
@[simp] theorem aek(cs:List D):closed (.agg cs)=eV cs:=by simp only[closed]
@[simp] theorem aeD(cs:List D):closed (.tup cs)=eV cs:=by simp only[closed]
@[simp] theorem aez(cs:List D):closed (.eG cs)=eV cs:=by simp only[closed]
@[simp] theorem aeE(v:Value):closed (.val v)=true:=by simp only[closed]
@[simp] theorem aey:closed .U=true:=by simp only[closed]
@[simp] theorem Fk(f:Fn)(a b:List D):closed (.fn f a b)=(eV a&&eV b):=by simp only[closed]
@[simp] theorem aeB(v g sz off n:Nat):closed (.eu v g sz off n)=false:=by simp only[closed]
@[simp] theorem aeC(v g o:Nat):closed (.ptr v g o)=false:=by simp only[closed]
@[simp] theorem aeF(v:Nat):closed (.gy v)=false:=by simp only[closed]
theorem uI{ρ:Nat→Option Nat}{H:et}{k:Nat}{cs:List D}(h:eV cs=true):cs.map (eC ρ H k)=cs:=by
 conv=>rhs;rw[← aQ cs]
 exact ak fun d hd=>lY (jM h d hd)
@[simp] theorem ZM(ρ:Nat→Option Nat)(H:et)(k:Nat)(cs:List D):eC ρ H (k+1) (.agg cs) = .agg (cs.map (eC ρ H k)):=by
 by_cases h:closed (.agg cs)=true
 ·rw[lY h,uI (by simpa using h)]
 ·rw[eC,if_neg h]
@[simp] theorem ZQ(ρ:Nat→Option Nat)(H:et)(k:Nat)(cs:List D):eC ρ H (k+1) (.tup cs) = .tup (cs.map (eC ρ H k)):=by
 by_cases h:closed (.tup cs)=true
 ·rw[lY h,uI (by simpa using h)]
 ·rw[eC,if_neg h]
@[simp] theorem aja(ρ:Nat→Option Nat)(H:et)(k:Nat)(c:Bool)(a b:D):eC ρ H k (bif c then a else b)=bif c then eC ρ H k a else eC ρ H k b:=by cases c<;>rfl
theorem Il{ρ:Nat→Option Nat}{H:et}{k:Nat}{cs:List D}(h:eV cs=true):cs.map (eC ρ H (k+1))=cs:=by
 conv=>rhs;rw[← aQ cs]
 exact ak fun d hd=>lY (jM h d hd)
theorem Fj{α:Type}{sz:Nat}{f:α→List D}(hf:∀ a,(f a).length=sz):∀ l:List α,chunks sz l.length (l.map f).flatten=l.map f
 | []=>rfl
 | a::l=>by
  simp only[aJ,chunks,List.map_cons,aL]
  rw[bA (by rw[hf];exact Nat.le_refl _),aG (by rw[hf];exact Nat.le_refl _),dp (by rw[hf];exact Nat.le_refl _),aZ (by rw[hf];exact Nat.le_refl _),bJ,Fj hf l]
theorem TP{α:Type}{sz:Nat}{f:α→List D}(hf:∀ a,(f a).length=sz)(l:List α):(l.map f).flatten.length=l.length*sz:=by
 induction l with
 | nil=>simp
 | cons a l ih=>simp only[List.map_cons,aL,az,hf,ih,aJ,bM];omega
theorem J1{a b:List D}:eV (a++b)=(eV a&&eV b):=by
 induction a with
 | nil=>rfl
 | cons d a ih=>simp only[cu,eV,ih,Bool.and_assoc]
theorem O'{α:Type}{f:α→List D}(hf:∀ a,eV (f a)=true)(l:List α):eV (l.map f).flatten=true:=by
 induction l with
 | nil=>rfl
 | cons a l ih=>simp only[List.map_cons,aL,J1,hf,ih];rfl
class Fl {α:Type} (f:α→List D) (sz:outParam Nat):Prop where
 len:∀ a,(f a).length=sz
 cl:∀ a,eV (f a)=true
instance:Fl f1 1:=⟨fun _=>by simp,fun _=>by simp[eV]⟩
instance:Fl fB 1:=⟨fun _=>by simp,fun _=>by simp[eV]⟩
instance:Fl fS 2:=⟨fun _=>by simp,fun _=>by simp[eV]⟩
instance:Fl fP 1:=⟨fun _=>by simp,fun _=>by simp[eV]⟩
instance:Fl fI 1:=⟨fun _=>by simp,fun _=>by simp[eV]⟩
instance:Fl Pos.cells 5:=⟨fun _=>rfl,fun _=>by simp⟩
instance:Fl Kind.cells 3:=⟨fun _=>rfl,fun _=>by simp⟩
instance:Fl Clause.cells 4:=⟨fun _=>rfl,fun _=>by simp⟩
section
variable{α:Type}{f:α→List D}{sz:Nat}
@[simp] theorem O7:cl f [] = []:=by rw[lL];rfl
@[simp] theorem CD(a b:List α):cl f a++cl f b=cl f (a++b):=by simp[lL]
theorem nc(l:List α)(a:α):cl f l++f a=cl f (l ++ [a]):=by simp[lL]
theorem nb(l:List α)(a:α):cl f (a::l)=f a++cl f l:=by simp[lL]
variable [F:Fl f sz]
include F
@[simp] theorem tD(l:List α):(cl f l).length=l.length*sz:=by rw[lL];exact TP F.len l
theorem sn:∀ (l:List α) (n:Nat),(cl f l).take (n*sz)=cl f (l.take n)
 | [],n=>by simp
 | a::l,0=>by simp
 | a::l,n+1=>by
  rw[nb,List.take_succ_cons,nb,← sn l n,bM,List.take_append,F.len,aG (by rw[F.len];omega)]
  congr 2;omega
theorem sk:∀ (l:List α) (n:Nat),(cl f l).drop (n*sz)=cl f (l.drop n)
 | [],n=>by simp
 | a::l,0=>by simp
 | a::l,n+1=>by
  rw[nb,List.drop_succ_cons,← sk l n,bM,List.drop_append,F.len,aZ (by rw[F.len];omega),bJ]
  congr 1;omega
@[simp] theorem aeg(l:List α):(cl f l).take (l.length*sz)=cl f l:=by rw[sn,db]
@[simp] theorem qb(l:List α):eV (cl f l)=true:=by rw[lL];exact O' F.cl l
@[simp] theorem aee{ρ:Nat→Option Nat}{H:et}(l:List α):(cl f l).map (eC ρ H 40)=cl f l:=Il (qb l)
@[simp] theorem xG{k:Nat}(l:List α):closed (.sl k (l.map f))=true:=by
 simp only[closed];exact vx F.cl l
theorem JZ(l:List α)(n j:Nat)(hj:j<sz):(cl f l)[n*sz+j]? = (l[n]?).bind fun a=>(f a)[j]? := by
 have h:(cl f l)[n*sz+j]? = ((cl f l).drop (n*sz))[j]? := by rw[aC]
 rw[h,sk]
 by_cases hn:n<l.length
 ·rw[bU hn,nb,ag (by rw[F.len];exact hj),List.getElem?_eq_getElem hn];rfl
 ·have h2:l[n]? = none:=aK (Nat.le_of_not_lt hn)
  rw[aZ (Nat.le_of_not_lt hn),h2];simp
theorem O8(l:List α)(n:Nat)(a:α)(h:n<l.length):(cl f l).take (n*sz)++f a++(cl f l).drop (n*sz+sz)=cl f (l.take n++a::l.drop (n+1)):=by
 rw[sn,← bM,sk,← CD,nb,bg]
end
@[simp] theorem adZ(l:List Int)(n:Nat):(cl f1 l).take n=cl f1 (l.take n):=by simpa using sn (f:=f1) l n
@[simp] theorem adX(l:List Int)(n:Nat):(cl f1 l).drop n=cl f1 (l.drop n):=by simpa using sk (f:=f1) l n
@[simp] theorem adY(l:List Int)(n:Int):cl f1 l ++ [.i n]=cl f1 (l ++ [n]):=by rw[← nc,sA]
@[simp] theorem ad3(l:List (List Int))(x:List Int):cl fI l ++ [dI x]=cl fI (l ++ [x]):=by rw[← nc,Qe]
@[simp] theorem ad7(l:List (List eI))(x:List eI):cl fP l ++ [ft x]=cl fP (l ++ [x]):=by rw[← nc,Qf]
@[simp] theorem ad9(l:List eI)(a b:Int):cl fS l ++ [.i a,.i b]=cl fS (l ++ [(a,b)]):=by rw[← nc,FN]
@[simp] theorem ad8(l:List Pos)(a b c:List Int)(r q:Int):cl Pos.cells l ++ [dI a,dI b,dI c,.i r,.i q]=cl Pos.cells (l ++ [⟨a,b,c,r,q⟩]):=by rw[← nc];rfl
@[simp] theorem aik(p:Pos):Pos.mk p.cs p.h0 p.h1 p.eR p.side=p:=rfl
@[simp] theorem ahi{l:List Int}{n:Int}{P:D→Prop}:oA (cl f1 l)[n.toNat]? P .mk=(n.toNat<l.length∧P (.i (gt l n))):=by
 have h:=JZ (f:=f1) l n.toNat 0 (by omega)
 simp only[Nat.mul_one,cc]at h
 rw[h]
 by_cases hn:n.toNat<l.length
 ·rw[List.getElem?_eq_getElem hn]
  have e:gt l n=l[n.toNat]:=by unfold gt;rw[List.getD_eq_getElem?_getD,List.getElem?_eq_getElem hn];rfl
  simp[hn,e]
 ·rw[aK (by omega)];simp[hn]
@[simp] theorem Uo{α:Type}[Inhabited α]{f:α→List D}{sz:Nat}[F:Fl f sz]{l:List α}{t:TypeId}{n:Int}{P:D→Prop}(hz:0<sz):oA (qB sz (n.toNat*sz) (some (t,cl f l))) P .mk=(n.toNat<l.length∧P (.agg (f (gt l n)))):=by
 simp only[qB,tD,← bM]
 rw[wy,uM]
 have h:n.toNat.succ*sz≤l.length*sz↔n.toNat<l.length:=dH hz
 rw[h]
 refine propext ⟨fun⟨a,p⟩=>⟨a,?_⟩,fun⟨a,p⟩=>⟨a,?_⟩⟩
 ·have e:gt l n=l[n.toNat]:=by unfold gt;rw[List.getD_eq_getElem?_getD,List.getElem?_eq_getElem a];rfl
  rw[sk,bU a,nb,bA (by rw[F.len];exact Nat.le_refl _),aG (by rw[F.len];exact Nat.le_refl _),← e]at p
  exact p
 ·have e:gt l n=l[n.toNat]:=by unfold gt;rw[List.getD_eq_getElem?_getD,List.getElem?_eq_getElem a];rfl
  rw[sk,bU a,nb,bA (by rw[F.len];exact Nat.le_refl _),aG (by rw[F.len];exact Nat.le_refl _),← e]
  exact p
def lz(ρ:Nat→Option Nat)(H:et)(k sz off n:Nat):Option (TypeId×List D)→D
 | some (_,cs)=>if (off+n)*sz≤cs.length then .sl sz (chunks sz n ((cs.drop (off*sz)).map (eC ρ H k)))else .any
 | none=>.any
@[simp] theorem aiZ(H:et)(k:Nat)(ρ:Nat→Option Nat)(v g sz off n:Nat):zG H k ρ v g sz off n none=lz ρ H k sz off n (rowAt H v g):=by
 unfold zG lz;rfl
@[simp] theorem q9{α:Type}{f:α→List D}{sz:Nat}[F:Fl f sz]{ρ:Nat→Option Nat}{H:et}{k n:Nat}{t:TypeId}{l:List α}(h:n=l.length):lz ρ H (k+1) sz 0 n (some (t,cl f l)) = .sl sz (l.map f):=by
 subst h
 unfold lz
 dsimp only
 rw[tD,if_pos (by simp),b9,dV,Il (qb l),lL,Fj F.len]
@[simp] theorem afg{ρ:Nat→Option Nat}{H:et}{k sz:Nat}{p:TypeId×List D}:lz ρ H k sz 0 0 (some p) = .sl sz []:=by
 unfold lz;simp[chunks]
@[simp] theorem afi{ρ:Nat→Option Nat}{H:et}{k:Nat}{t:TypeId}{n:Int}:lz ρ H (k+1) 1 0 1 (some (t,[.i n]))=dI [n]:=by
 have:=q9 (f:=f1) (ρ:=ρ) (H:=H) (k:=k) (t:=t) (l:=[n]) (n:=1) rfl
 rw[lL]at this
 simp only[List.map_cons,List.map_nil,sA,aL,cH,av]at this
 rw[this];unfold dI;simp only[List.map_cons,List.map_nil,sA]
@[simp] theorem afk{ρ:Nat→Option Nat}{H:et}{k:Nat}{t:TypeId}{a b c:List Int}{r q:Int}:lz ρ H (k+1) 5 0 1 (some (t,[dI a,dI b,dI c,.i r,.i q]))=fh [⟨a,b,c,r,q⟩]:=by
 have h:=q9 (f:=Pos.cells) (ρ:=ρ) (H:=H) (k:=k) (t:=t) (l:=[⟨a,b,c,r,q⟩]) (n:=1) rfl
 rw[lL]at h
 unfold fh;exact h
@[simp] theorem ZT(l:List Int):D.sl 1 (l.map f1)=dI l:=by unfold dI;rfl
@[simp] theorem ajy(l:List Pos):D.sl 5 (l.map Pos.cells)=fh l:=by unfold fh;rfl
@[simp] theorem ajx(l:List eI):D.sl 2 (l.map fS)=ft l:=by unfold ft;rfl
def pb(ρ:Nat→Option Nat)(H:et):Option Ob→Ob
 | some o=>lF ρ H o
 | none=>.dead
@[simp] theorem ai8(ρ:Nat→Option Nat)(H:et)(t g:Nat)(cs:List D):pb ρ H (some (.row t g cs)) = .row t g (cs.map (eC ρ H 40)):=rfl
@[simp] theorem ai5(ρ:Nat→Option Nat)(H:et)(kk:KK)(es:List (Value×D)):pb ρ H (some (.map kk es)) = .map kk (es.map fun x=>(x.1,eC ρ H 40 x.2)):=rfl
@[simp] theorem ai3(ρ:Nat→Option Nat)(H:et):pb ρ H (some .dead) = .dead:=rfl
@[simp] theorem ai4(ρ:Nat→Option Nat)(H:et):pb ρ H (some .jA) = .jA:=rfl
@[simp] theorem ai7(ρ:Nat→Option Nat)(H:et)(rf:Nat)(e:Env)(st:nV):pb ρ H (some (.fE rf e st)) = .fE rf (e.map fun x=>(x.1,eC ρ H 40 x.2)) st:=rfl
def Fx(env:Env)(H:et)(m:List Nat)(r:Bool)(ks:km):St:={ env:=env.map fun p=>(p.1,eC (fW ks) H 40 p.2),H:=ks.map fun p=>if p.2 then pb (fW ks) H H[p.1]? else .dead,marks:=m.map fun v=>(fW ks v).getD v,fV:=r }
def H4(n:Nat)(env:Env)(H:et)(m:List Nat):List Nat:=dedup (((env.map fun p=>gD n p.2).flatten++((H.take n).map (lU n)).flatten++m.filter (n≤·)).filter (· < H.length))
@[simp low] theorem Ke{n:Nat}{live:List Nat}{env:Env}{H:et}{m:List Nat}{r:Bool}(h:¬ H.length≤n):cut n live { env:=env,H:=H,marks:=m,fV:=r }=Fx (forget live env) H m r (gx n (H4 n (forget live env) H m)):=by
 unfold cut Fx H4
 dsimp only
 rw[if_neg h]
 rfl
@[simp] theorem afN(K:List Nat):gx 0 K=K.map fun v=>(v,true):=rfl
@[simp] theorem afO(K:List Nat):gx 1 K=(0,true)::K.map fun v=>(v,true):=rfl
@[simp] theorem afZ(K:List Nat):gx 2 K=(0,true)::(1,true)::K.map fun v=>(v,true):=rfl
@[simp] theorem af4(K:List Nat):gx 3 K=(0,true)::(1,true)::(2,true)::K.map fun v=>(v,true):=rfl
@[simp] theorem af5(K:List Nat):gx 4 K=(0,true)::(1,true)::(2,true)::(3,true)::K.map fun v=>(v,true):=rfl
def s9(i:Nat):km→Nat→Option Nat
 | [],_=>none
 | p::r,v=>if p.2&&p.1 == v then some i else s9 (i+1) r v
theorem Zm(ks:km)(v:Nat):fW ks v=s9 0 ks v:=by
 have key:∀ (ks:km) (i:Nat),s9 i ks v=(ks.findIdx? (fun p=>p.2&&p.1 == v)).map (· + i):=by
  intro ks
  induction ks with
  | nil=>intro i;rfl
  | cons p r ih=>
   intro i
   rw[List.findIdx?_cons]
   unfold s9
   split
   ·simp
   ·rw[ih,Option.map_map]
    congr 1;funext x;simp;omega
 rw[key];simp[fW]
@[simp] theorem aiO(v:Nat):fW [] v=none:=rfl
@[simp] theorem aiN(p:Nat×Bool)(r:km)(v:Nat):fW (p::r) v=if (p.2&&p.1 == v)=true then some 0 else s9 1 r v:=by
 rw[Zm];rfl
@[simp] theorem aiM(i v:Nat):s9 i [] v=none:=rfl
@[simp] theorem aiL(i:Nat)(p:Nat×Bool)(r:km)(v:Nat):s9 i (p::r) v=if (p.2&&p.1 == v)=true then some i else s9 (i+1) r v:=rfl
@[simp] theorem aeJ(env:Env)(H:et)(m:List Nat)(r:Bool)(ks:km):Fx env H m r ks = { env:=env.map fun p=>(p.1,eC (fW ks) H 40 p.2),H:=ks.map fun p=>if p.2 then pb (fW ks) H H[p.1]? else .dead,marks:=m.map fun v=>(fW ks v).getD v,fV:=r }:=rfl
@[simp] theorem aiu(n:Nat)(env:Env)(H:et)(m:List Nat):H4 n env H m=dedup (((env.map fun p=>gD n p.2).flatten++((H.take n).map (lU n)).flatten++m.filter (n≤·)).filter (· < H.length)):=rfl
@[simp] theorem aeM:dedup [] = []:=rfl
@[simp] theorem aeL(x:Nat)(r:List Nat):dedup (x::r)=if x∈r then dedup r else x::dedup r:=rfl
theorem EW(n:Nat){d:D}(h:closed d=true):gD n d = []:=by
 cases d<;>first|rfl|cases h
@[simp] theorem ajV(n:Nat)(l:List Int):gD n (dI l) = []:=rfl
@[simp] theorem aj0(n:Nat)(l:List Pos):gD n (fh l) = []:=rfl
@[simp] theorem ajY(n:Nat)(p:Pos):gD n (dP p) = []:=rfl
@[simp] theorem ajZ(n:Nat)(l:List eI):gD n (ft l) = []:=rfl
@[simp] theorem ajU(n:Nat)(g:ey):gD n (dG g) = []:=rfl
@[simp] theorem ajT(n:Nat)(g:ey):gD n g.gH = []:=rfl
@[simp] theorem ajW{α:Type}(n sz:Nat)(f:α→List D)(l:List α):gD n (dN sz f l) = []:=by cases l<;>rfl
@[simp] theorem akc(n:Nat)(v:Value):gD n (.val v) = []:=rfl
@[simp] theorem ajS(n:Nat):gD n .any = []:=rfl
@[simp] theorem aj3(n:Nat):gD n .U = []:=rfl
@[simp] theorem ajR(n:Nat)(cs:List D):gD n (.agg cs) = []:=rfl
@[simp] theorem akb(n:Nat)(cs:List D):gD n (.tup cs) = []:=rfl
@[simp] theorem aj5(n:Nat)(cs:List D):gD n (.eG cs) = []:=rfl
@[simp] theorem aka(n sz:Nat)(es:List (List D)):gD n (.sl sz es) = []:=rfl
@[simp] theorem aj4(n:Nat)(f:Fn)(a b:List D):gD n (.fn f a b) = []:=rfl
@[simp] theorem aj8(n v g sz off len:Nat):gD n (.eu v g sz off len)=if n≤v then [v]else []:=rfl
@[simp] theorem aj9(n v g off:Nat):gD n (.ptr v g off)=if n≤v then [v]else []:=rfl
@[simp] theorem aj7(n v:Nat):gD n (.fC v)=if n≤v then [v]else []:=rfl
@[simp] theorem akd(n v:Nat):gD n (.gy v)=if n≤v then [v]else []:=rfl
theorem Ze(n:Nat){cs:List D}(h:eV cs=true):(cs.map (gD n)).flatten = []:=by
 induction cs with
 | nil=>rfl
 | cons d r ih=>
  simp only[eV,ah]at h
  simp[EW n h.1,ih h.2]
@[simp] theorem aed(n:Nat){α:Type}{f:α→List D}{sz:Nat}[F:Fl f sz](l:List α):((cl f l).map (gD n)).flatten = []:=Ze n (qb l)
@[simp] theorem ahH(n t g:Nat)(cs:List D):lU n (.row t g cs)=(cs.map (gD n)).flatten:=rfl
@[simp] theorem ahE(n:Nat)(kk:KK)(es:List (Value×D)):lU n (.map kk es)=(es.map fun x=>gD n x.2).flatten:=rfl
@[simp] theorem ahC(n:Nat):lU n .dead = []:=rfl
theorem TJ{H:et}{d:D}(h:H≠[]):leave 0 0 H d=(eC (fun _=>none) H 40 d,[]):=by
 unfold leave
 rw[if_neg (by cases H with|nil=>exact absurd rfl h|cons a l=>simp)]
 rfl
@[simp] theorem agt{o:Ob}{r:et}{d:D}:leave 0 0 (o::r) d=(eC (fun _=>none) (o::r) 40 d,[]):=TJ (by simp)
attribute [simp] and_assoc Kind.cells Clause.cells dP Pos.cells dG ey.cells ey.gH
def gS(T:fH)(n:Nat)(live:List Nat)(a:IR)(s:St)(K:gp)(_:Tag (live,a,s,K)):Prop:=Ev T (.loop n live (iY a) s) (PO K)
def DZ(T:fH)(n:Nat)(live:List Nat)(a:IR)(K:gp):gp:=fun o=>match o with
 | .norm s=>gS T n live a (cut n live s) K .mk
 | o=>K o
def NH(T:fH)(v rf:Nat)(b:IR)(dst:Option Nat)(s:St)(K:St→Prop):gp:=fun o=>match o with
 | .norm s1=>∃ iV,s1.H[v]? = some (.fE rf iV .ready)∧XC T b { s1 with H:=s1.H.set v (.fE rf iV .busy) } (uS v rf dst s K)
 | _=>False
theorem nW.r{T:fH}{v rf:Nat}{args:List D}{dst:Option Nat}{s:St}{K:St→Prop}{env0:Env}{Rd:mi}(hv:s.H[v]? = some (.fE rf env0 .ready))(hR:T.round rf=some Rd)(hl:args.length=Rd.params.length)
  (ca cb:IR) (ha:iY ca=Rd.a) (hb:iY cb=Rd.b)
  (h:XC T ca { env:=oJ Rd.params args env0,H:=s.H,fV:=true } (NH T v rf cb dst s K)):nW T v args dst s K .mk:=by
 refine⟨rf,env0,Rd,hv,hR,hl,?_⟩
 rw[← ha]
 refine(XC.wc h).mono fun o ho=>?_
 cases o with
 | norm s1=>
  obtain⟨iV,h1,h2⟩:=ho
  exact⟨s1,iV,rfl,h1,by rw[← hb];exact XC.wc h2⟩
 | exit=>exact ho.elim
 | ret=>exact ho.elim
def Zo(rf:Nat)(s:St)(K:gp):D→et→Prop:=fun _ H'=>∃ env st,H'[s.H.length+1]? = some (.fE rf env st)∧oA (uQ { s with H:=H'.set (s.H.length+1) .dead,marks:=s.H.length::s.marks } st) K .mk
theorem vm.r{T:fH}{rf:Nat}{live:List Nat}{x:X}{s:St}{K:gp}{f:FuncId}{first cap:List D}{fn:eA}(hr:s.fV=false)(hx:ev s.env.get x = .fn (.func f) first cap)(hf:T.fn f=some fn)(hp:fn.full=true)
  (h:Wf T f (first ++ [.gy (s.H.length+1)]++cap) (s.H ++ [.jA,.fE rf (forget live s.env) .ready]) (Zo rf s K)):vm T rf live x s K .mk:=
 Ev.jY hr hx hf hp h fun d H' ⟨d',H2,he,env,st,h1,o,h2,h3⟩=>by
  cases he
  exact⟨env,st,o,h1,h2,o,rfl,h3⟩
section
variable{T:fH}{n:Nat}{live:List Nat}{a:IR}{s:St}{K:gp}{id:Nat}
theorem eF.un(h:gS T s.H.length live a { s with env:=forget live s.env } K .mk):eF T live a s K .mk:=Ev.loop h
theorem gS.u(h:XC T a s (DZ T n live a K)):gS T n live a s K .mk:=by
 refine Ev.sY (XC.wc h) (fun zF ⟨o,e,k⟩=>?_) fun o ⟨o',e,k⟩ hs=>?_
 ·cases e;exact k
 ·cases e
  cases o with
  | norm=>cases hs
  | exit=>exact⟨_,rfl,k⟩
  | ret=>exact⟨_,rfl,k⟩
@[simp ↓] theorem agS:DZ T n live a K (.norm s)=gS T n live a (cut n live s) K .mk:=(rfl)
@[simp ↓] theorem agR:DZ T n live a K (.exit id s)=K (.exit id s):=(rfl)
@[simp ↓] theorem agT:DZ T n live a K (.ret s)=K (.ret s):=(rfl)
end
theorem Xk{x b:Bool}{P Q:Prop}(k:cond b P Q)(h:x=b:=by first|(show _=true;first|assumption|exact decide_eq_true (by assumption))|(show _=false;first|assumption|exact decide_eq_false (by assumption))):X2 x P Q .mk:=by
 subst h;cases x<;>simpa using k
class PB (x:Bool) (I:outParam (Prop→Prop)) (q:outParam Prop):Prop where
 t:∀ {P:Prop},I P→x=true→P
 f:x=false→q
instance(priority:=low){x:Bool}:PB x (fun P=>x=true→P) (x=false):=⟨fun h e=>h e,id⟩
instance{p:Prop}[Decidable p]:PB (decide p) (fun P=>p→P) (¬p):=⟨fun h e=>h (of_decide_eq_true e),of_decide_eq_false⟩
instance{p q:Prop}[Decidable p][Decidable q]:PB (decide p&&decide q) (fun P=>p→q→P) (¬(p∧q)):=⟨fun h e=>by
 rw[← dM]at e
 exact h (of_decide_eq_true e).1 (of_decide_eq_true e).2,fun e=>by rw[← dM]at e;exact of_decide_eq_false e⟩
instance{p q:Prop}[Decidable p][Decidable q]:PB (decide p||decide q) (fun P=>p∨q→P) (¬(p∨q)):=⟨fun h e=>by
 rw[← dT]at e
 exact h (of_decide_eq_true e),fun e=>by rw[← dT]at e;exact of_decide_eq_false e⟩
theorem Xs{x:Bool}{I:Prop→Prop}{q P Q:Prop}[c:PB x I q](h:I P)(k:q→Q):X2 x P Q .mk:=⟨c.t h,fun e=>k (c.f e)⟩
theorem Yc{T:fH}{f:FuncId}{args:List D}{dst:Option Nat}{s:St}{K:St→Prop}{fn:eA}{x:D}(h:Wf T f args [] fun d H'=>d=x∧H' = [])(k:K { s with env:=put s.env dst x })
  (hf:T.fn f=some fn:=by exact rfl) (hp:fn.full=false:=by exact rfl) (hc:eV args=true:=by simp) (hx:closed x=true:=by simp):eU T f args dst s K .mk:=eU.c hf hp h hc hx k
theorem Yt{T:fH}{f:FuncId}{args:List D}{R:List Fp}{dst:Option Nat}{s:St}{Q:Rc→St→Prop}{fn:eA}{x:D}(h:Wf T f args [] fun d H'=>d=x∧H' = [])(k:Q ⟨R,[]⟩ { s with env:=put s.env dst x })
  (hf:T.fn f=some fn:=by exact rfl) (hp:fn.full=false:=by exact rfl) (hc:eV args=true:=by simp) (hx:closed x=true:=by simp):gq T f args R dst s Q .mk:=gq.c hf hp h hc hx k
theorem Yr{T:fH}{f:FuncId}{args mG:List D}{dst:Option Nat}{s:St}{K:St→Prop}{fn:eA}{x:D}(h:Wf T f mG [] fun d H'=>d=x∧H' = [])(k:K { s with env:=put s.env dst x })
  (hf:T.fn f=some fn:=by exact rfl) (hp:fn.full=false:=by exact rfl) (hs:args.map (eC (fun _=>none) s.H 40)=mG:=by simp) (hx:flat x=true:=by simp[flat]) (jO:closed x=true:=by simp):eU T f args dst s K .mk:=eU.r hf hp h hs hx jO k
theorem Yg{T:fH}{f:FuncId}{args:List D}{H:et}(fn:eA){K:D→et→Prop}(h:XC T fn.body { env:=oC args,H:=H } (sB fn.results fn.own H.length K))
  (hf:T.fn f=some fn:=by exact rfl) (hl:args.length≤fn.ntmps:=by exact dh rfl) (hz:oE fn.body=true:=by exact rfl):Wf T f args H K:=Wf.x hf hl h hz
theorem Yz{T:fH}{f:FuncId}{args:List D}{H:et}(fn:eA)(c:IR){K:D→et→Prop}(h:XC T c { env:=oC args,H:=H } (sB fn.results fn.own H.length K))
  (hf:T.fn f=some fn:=by exact rfl) (hl:args.length≤fn.ntmps:=by exact dh rfl) (hc:iY c=fn.body:=by simp only[tg,th];exact mg rfl):Wf T f args H K:=Wf.xz fn.own c hf hl hc h
