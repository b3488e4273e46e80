/- Part 9 of the proof of skewer.skewerlaw15.TableAgain. -/
import Derived.Test.YtnaefnajkaohgaaGreatDoorD08
set_option linter.all false
namespace Go.AL
open Go
universe u
inductive Tag{α:Sort u}(a:α):Type
 | mk
def oA{α:Type}(x:Option α)(P:α→Prop)(_:Tag P):Prop:=∃ a,x=some a∧P a
@[simp] theorem vP{α:Type}(a:α)(P:α→Prop):oA (some a) P .mk=P a:=by simp[oA]
@[simp] theorem Pa{α:Type}(P:α→Prop):oA none P .mk=False:=by simp[oA]
@[simp high] theorem xJ{α:Type}{c:Prop}[Decidable c](x:Option α)(P:α→Prop):oA (if c then x else none) P .mk=(c∧oA x P .mk):=by
 by_cases h:c<;>simp[h]
@[simp] theorem aj4{α:Type}{c:Prop}[Decidable c](x y:Option α)(P:α→Prop):oA (if c then x else y) P .mk=((c→oA x P .mk)∧(¬c→oA y P .mk)):=by
 by_cases h:c<;>simp[h]
@[simp] theorem aj5(x:Option D)(P:D×Dl→Prop):oA (lift x) P .mk=oA x (fun d=>P (d,.no)) .mk:=by
 cases x<;>simp[lift]
@[simp] theorem ajU{α β:Type}(x:Option α)(f:α→Option β)(P:β→Prop):oA (x.bind f) P .mk=oA x (fun a=>oA (f a) P .mk) .mk:=by
 cases x<;>simp
def gB:D→Bool→Option Bool
 | .val (.bool b),want=>some (b == want)
 | .val (.tuple _),_=>some false
 | _,_=>none
@[simp] theorem ah5(want:Bool):gB (.val undef) want=some false:=rfl
@[simp] theorem ah4(x:Bool):gB (.b x) true=some x:=by cases x<;>rfl
@[simp] theorem ah3(x:Bool):gB (.b x) false=some (!x):=by cases x<;>rfl
@[simp] theorem ah9(f:fD):guardOf f none=some true:=rfl
@[simp] theorem aia(f:fD)(j:Nat)(w:Bool):guardOf f (some (j,w))=gB (f j) w:=by
 show(match f j with | .val (.bool b)=>some (b == w) | .val (.tuple _)=>some false|_=>none)=gB (f j) w
 unfold gB;split<;>simp_all
@[simp] theorem ahv(f:fD)(k:Nat):ev f (.t k)=f k:=rfl
@[simp] theorem ahu(f:fD)(d:D):ev f (.c d)=d:=rfl
@[simp] theorem akX(env:Env)(k:Nat)(d:D):put env (some k) d=(k,d)::env:=rfl
@[simp] theorem akW(env:Env)(d:D):put env none d=env:=rfl
@[simp] theorem afp(H:U)(al:Al):Dl.no.app H al=H:=rfl
@[simp] theorem afo(H:U)(al:Al)(ob:Ob):(Dl.new ob).app H al=al.2 ob:=rfl
@[simp] theorem afq(H:U)(al:Al)(v:Nat)(ob:Ob):(Dl.obj v ob).app H al=H.set v ob:=rfl
def setCells(H:U)(v o:Nat)(xs:List D):Option Ob→U
 | some (.row t g cs)=>H.set v (.row t g (cs.take o++xs++cs.drop (o+xs.length)))
 | _=>H
@[simp] theorem afm(H:U)(al:Al)(v o:Nat)(xs:List D):(Dl.cells v o xs).app H al=setCells H v o xs H[v]? := by
 show(match H[v]? with|some (.row t g cs)=>H.set v (.row t g (cs.take o++xs++cs.drop (o+xs.length)))|_=>H)=_
 unfold setCells;split<;>simp_all
@[simp] theorem alw(H:U)(v o:Nat)(xs:List D)(t g:Nat)(cs:List D):setCells H v o xs (some (.row t g cs))=H.set v (.row t g (cs.take o++xs++cs.drop (o+xs.length))):=rfl
def Gm(k:IntKind)(a b:Int):Int:=k.wrap (a*2 ^ (min b.toNat k.bits))
def uw(k:IntKind)(a b:Int):Int:=a.fdiv (2 ^ (min b.toNat k.bits))
section
variable{k:IntKind}{a b:Int}
@[simp] theorem afE:jy .add (.val (.int k a)) (.val (.int k b))=iD .add k a b:=by simp[jy,nk]
@[simp] theorem afT:jy .sub (.val (.int k a)) (.val (.int k b))=iD .sub k a b:=by simp[jy,nk]
@[simp] theorem afM:jy .mul (.val (.int k a)) (.val (.int k b))=iD .mul k a b:=by simp[jy,nk]
@[simp] theorem afO:jy .quo (.val (.int k a)) (.val (.int k b))=iD .quo k a b:=by simp[jy,nk]
@[simp] theorem afP:jy .rem (.val (.int k a)) (.val (.int k b))=iD .rem k a b:=by simp[jy,nk]
@[simp] theorem afF:jy .and (.val (.int k a)) (.val (.int k b))=some (.val (.int k (bits .and k a b))):=by simp[jy,nk,iD]
@[simp] theorem afG:jy .andNot (.val (.int k a)) (.val (.int k b))=some (.val (.int k (bits .andNot k a b))):=by simp[jy,nk,iD]
@[simp] theorem afH:jy .eql (.val (.int k a)) (.val (.int k b))=some (.b (decide (a=b))):=by simp[jy,nk,iD,BEq.beq]
@[simp] theorem afN:jy .neq (.val (.int k a)) (.val (.int k b))=some (.b (!decide (a=b))):=by simp[jy,nk,iD,bne,BEq.beq]
@[simp] theorem afL:jy .lss (.val (.int k a)) (.val (.int k b))=some (.b (decide (a<b))):=by simp[jy,nk,iD]
@[simp] theorem afK:jy .leq (.val (.int k a)) (.val (.int k b))=some (.b (decide (a≤b))):=by simp[jy,nk,iD]
@[simp] theorem afJ:jy .gtr (.val (.int k a)) (.val (.int k b))=some (.b (decide (a>b))):=by simp[jy,nk,iD]
@[simp] theorem afI:jy .geq (.val (.int k a)) (.val (.int k b))=some (.b (decide (a≥b))):=by simp[jy,nk,iD]
@[simp] theorem afQ{k2:IntKind}:jy .shl (.val (.int k a)) (.val (.int k2 b))=if 0≤b then some (.val (.int k (Gm k a b)))else none:=rfl
@[simp] theorem afR{k2:IntKind}:jy .shr (.val (.int k a)) (.val (.int k2 b))=if 0≤b then some (.val (.int k (uw k a b)))else none:=rfl
@[simp] theorem afS(op:BinOp)(s t:ByteArray):jy op (.val (.string s)) (.val (.string t))=ya op s t:=rfl
@[simp] theorem amR(x:Bool):Bn .not (.b x)=some (.b !x):=rfl
@[simp] theorem amQ(n:Int):Bn .neg (.i n)=if lx (-n)then some (.i (-n))else none:=rfl
@[simp] theorem ahi(k':IntKind):DW k' (.val (.int k a))=some (.val (.int k' (k'.wrap a))):=rfl
end
@[simp] theorem ahA(off v g o:Nat):zj off (.ptr v g o)=some (.ptr v g (o+off)):=rfl
@[simp] theorem ahz(off:Nat)(cs:List D):zj off (.eZ cs)=some (.eZ (cs.drop off)):=rfl
@[simp] theorem ahB(off n:Nat)(cs:List D):u5 off n true (.agg cs)=if off+n≤cs.length then some (.agg ((cs.drop off).take n))else none:=rfl
@[simp] theorem ahC(off n:Nat)(cs:List D):u5 off n false (.agg cs)=cs[off]? := rfl
@[simp] theorem ahw(ds:List D)(i:Nat):Eb (.tup ds) i=ds[i]? := rfl
@[simp] theorem ajH(v g o:Nat):vN (.ptr v g o)=some (.ptr v g o):=rfl
@[simp] theorem ajG(cs:List D):vN (.eZ cs)=some (.eZ cs):=rfl
@[simp] theorem ajF(f:FuncId)(a b:List D):vN (.fn (.func f) a b)=some (.fn (.func f) a b):=rfl
@[simp] theorem ajI(v:Nat):vN (.gO v)=some (.gO v):=rfl
def rowOf(k:Nat):Option Ob→Option (TypeId×List D)
 | some (.row t g cs)=>if g=k then some (t,cs)else none
 | _=>none
@[simp] theorem alu(H:U)(v k:Nat):rowAt H v k=rowOf k H[v]? := by
 unfold rowAt rowOf;split<;>simp_all
@[simp] theorem alv(k:Nat)(t:TypeId)(g:Nat)(cs:List D):rowOf k (some (.row t g cs))=if g=k then some (t,cs)else none:=rfl
@[simp] theorem aiX(v g o:Nat)(H:U):rn (.ptr v g o) H=(rowAt H v g).bind fun p=>p.2[o]? := by
 show(match rowAt H v g with|some (_,cs)=>cs[o]? | none=>none)=_
 cases rowAt H v g<;>rfl
@[simp] theorem aiW(cs:List D)(H:U):rn (.eZ cs) H=cs[0]? := rfl
def tY(n o:Nat):Option (TypeId×List D)→Option D
 | some p=>if o+n≤p.2.length then some (.agg ((p.2.drop o).take n))else none
 | none=>none
@[simp] theorem ai1(n o:Nat):tY n o none=none:=rfl
@[simp low] theorem ai2(n o:Nat)(p:TypeId×List D):tY n o (some p)=if o+n≤p.2.length then some (.agg ((p.2.drop o).take n))else none:=rfl
@[simp] theorem aiZ(n v g o:Nat)(H:U):rp n (.ptr v g o) H=tY n o (rowAt H v g):=by
 show(match rowAt H v g with|some (_,cs)=>if o+n≤cs.length then some (D.agg ((cs.drop o).take n))else none|none=>none)=_
 cases rowAt H v g<;>rfl
@[simp] theorem aiY(n:Nat)(cs:List D)(H:U):rp n (.eZ cs) H=if n≤cs.length then some (.agg (cs.take n))else none:=rfl
@[simp] theorem amm(v g o:Nat)(x:D)(H:U):wh (.ptr v g o) x H=(rowAt H v g).bind fun p=>if o<p.2.length∧one x=true then some (.any,.cells v o [x])else none:=by
 show(match rowAt H v g with|some (_,cs)=>if o<cs.length∧one x=true then some (D.any,Dl.cells v o [x])else none|none=>none)=_
 cases rowAt H v g<;>rfl
@[simp] theorem amn(n v g o:Nat)(xs:List D)(H:U):wi n (.ptr v g o) (.agg xs) H=(rowAt H v g).bind fun p=>if xs.length=n∧o+n≤p.2.length then some (.any,.cells v o xs)else none:=by
 show(match rowAt H v g with|some (_,cs)=>if xs.length=n∧o+n≤cs.length then some (D.any,Dl.cells v o xs)else none|none=>none)=_
 cases rowAt H v g<;>rfl
@[simp] theorem afY(t:TypeId)(cs:List D)(n:Nat):pG t (.agg cs) n=some (.ptr n 0 0,.new (.row t 0 cs)):=rfl
@[simp] theorem agf(cs:List D):cellsOf (.agg cs)=some cs:=rfl
@[simp] theorem agq(k:IntKind)(n:Int):cellsOf (.val (.int k n))=some [.val (.int k n)]:=rfl
@[simp] theorem agh(b:Bool):cellsOf (.b b)=some [.b b]:=rfl
@[simp] theorem agw(b:ByteArray):cellsOf (.val (.string b))=some [.val (.string b)]:=rfl
@[simp] theorem agv(sz:Nat)(es:List (List D)):cellsOf (.sl sz es)=some [.sl sz es]:=rfl
@[simp] theorem agi(l:List Int):cellsOf (dI l)=some [dI l]:=rfl
@[simp] theorem agk(l:List Pos):cellsOf (fW l)=some [fW l]:=rfl
@[simp] theorem agj(l:List eT):cellsOf (gq l)=some [gq l]:=rfl
@[simp] theorem agn:cellsOf .emp=some [.emp]:=rfl
@[simp] theorem agt(v g sz off n:Nat):cellsOf (.eN v g sz off n)=some [.eN v g sz off n]:=rfl
@[simp] theorem agu(v g o:Nat):cellsOf (.ptr v g o)=some [.ptr v g o]:=rfl
@[simp] theorem agp(cs:List D):cellsOf (.eZ cs)=some [.eZ cs]:=rfl
@[simp] theorem ags(v:Nat):cellsOf (.omap v)=some [.omap v]:=rfl
@[simp] theorem ago(f:Fn)(a b:List D):cellsOf (.fn f a b)=some [.fn f a b]:=rfl
@[simp] theorem akE(k:IntKind)(n:Int):one (.val (.int k n))=true:=rfl
@[simp] theorem akw(b:Bool):one (.b b)=true:=rfl
@[simp] theorem akJ(b:ByteArray):one (.val (.string b))=true:=rfl
@[simp] theorem akI(sz:Nat)(es:List (List D)):one (.sl sz es)=true:=rfl
@[simp] theorem akx(l:List Int):one (dI l)=true:=rfl
@[simp] theorem akz(l:List Pos):one (fW l)=true:=rfl
@[simp] theorem aky(l:List eT):one (gq l)=true:=rfl
@[simp] theorem akB:one .emp=true:=rfl
@[simp] theorem akG(v g sz off n:Nat):one (.eN v g sz off n)=true:=rfl
@[simp] theorem akH(v g o:Nat):one (.ptr v g o)=true:=rfl
@[simp] theorem akD(cs:List D):one (.eZ cs)=true:=rfl
@[simp] theorem akF(v:Nat):one (.omap v)=true:=rfl
@[simp] theorem akC(f:Fn)(a b:List D):one (.fn f a b)=true:=rfl
@[simp] theorem af7(f:fD)(z:List D)(ps:List (Nat×Nat×X)):wJ f z ps=(partsOf f ps).bind fun l=>(lay l z).bind fun cs=>some (D.agg cs):=by
 unfold wJ;cases partsOf f ps with
 | none=>rfl
 | some l=>simp only[Option.bind_some];cases lay l z<;>rfl
@[simp] theorem af6(f:fD)(t sz:Nat)(z:List D)(m:Nat)(ps:List (Nat×X))(n:Nat):tg f t sz z m ps n=(partsOf f (ps.map fun p=>(p.1*sz,sz,p.2))).bind fun l=>(lay l (List.replicate m z).flatten).bind fun cs=>some (.eN n 0 sz 0 m,.new (.row t 0 cs)):=by
 unfold tg;cases partsOf f (ps.map fun p=>(p.1*sz,sz,p.2))with
 | none=>rfl
 | some l=>simp only[Option.bind_some];cases lay l (List.replicate m z).flatten<;>rfl
@[simp] theorem akR(f:fD):partsOf f []=some []:=rfl
@[simp] theorem akQ(f:fD)(o n:Nat)(x:X)(r:List (Nat×Nat×X)):partsOf f ((o,n,x)::r)=(cellsOf (ev f x)).bind fun cs=>(partsOf f r).bind fun l=>some ((o,n,cs)::l):=by
 show(match cellsOf (ev f x),partsOf f r with|some cs,some l=>some ((o,n,cs)::l)|_,_=>none)=_
 cases cellsOf (ev f x)<;>cases partsOf f r<;>rfl
@[simp] theorem aik(sz v g off len:Nat)(k:IntKind)(n:Int):mb sz (.eN v g sz off len) (.val (.int k n))=if 0≤n∧n<len then some (.ptr v g ((off+n.toNat)*sz))else none:=by
 simp[mb]
@[simp] theorem aim(sz n v g o:Nat)(k:IntKind)(i:Int):Ai sz n (.ptr v g o) (.val (.int k i))=if 0≤i∧i<n then some (.ptr v g (o+i.toNat*sz))else none:=rfl
@[simp] theorem ail(sz n:Nat)(cs:List D)(k:IntKind)(i:Int):Ai sz n (.eZ cs) (.val (.int k i))=if 0≤i∧i<n then some (.eZ (cs.drop (i.toNat*sz)))else none:=rfl
@[simp] theorem ain(sz n:Nat)(b:Bool)(cs:List D)(k:IntKind)(i:Int):Fj sz n b (.agg cs) (.val (.int k i))=if 0≤i∧i<n then u5 (i.toNat*sz) sz b (.agg cs)else none:=rfl
@[simp] theorem afW(f:fD)(n:Int):gZ f none n=some n:=rfl
def Jf:D→Option Int
 | .val (.int _ n)=>some n
 | _=>none
@[simp] theorem aip(k:IntKind)(n:Int):Jf (.val (.int k n))=some n:=rfl
@[simp] theorem afX(f:fD)(x:X)(n:Int):gZ f (some x) n=Jf (ev f x):=by
 show(match ev f x with | .val (.int _ n)=>some n|_=>none)=_
 unfold Jf;split<;>simp_all
@[simp] theorem acw(f:fD)(sz:Nat)(es:List (List D))(lo hi:Option X):qD f sz (.sl sz es) lo hi=(gZ f lo 0).bind fun l=>(gZ f hi es.length).bind fun h=>if 0≤l∧l≤h∧h≤es.length then some (.sl sz ((es.drop l.toNat).take (h.toNat-l.toNat)))else none:=by
 simp only[qD]
 cases gZ f lo 0<;>cases gZ f hi es.length<;>simp
@[simp] theorem amd(f:fD)(sz v g off len:Nat)(lo hi:Option X):qD f sz (.eN v g sz off len) lo hi=(gZ f lo 0).bind fun l=>(gZ f hi len).bind fun h=>if 0≤l∧l≤h∧h≤len then some (.eN v g sz (off+l.toNat) (h.toNat-l.toNat))else none:=by
 simp only[qD]
 cases gZ f lo 0<;>cases gZ f hi len<;>simp
@[simp] theorem amc(f:fD)(sz:Nat)(lo hi:Option X):qD f sz .emp lo hi=(gZ f lo 0).bind fun l=>(gZ f hi 0).bind fun h=>if l=0∧h=0 then some .emp else none:=by
 simp only[qD]
 cases gZ f lo 0<;>cases gZ f hi 0<;>simp
theorem acv{α:Type}(f:α→List D)(l:List α)(a b:Nat):((l.map f).drop a).take b=((l.drop a).take b).map f:=by rw[List.map_take,eH]
@[simp] theorem amb(f:fD)(l:List Pos)(lo hi:Option X):qD f 5 (fW l) lo hi=(gZ f lo 0).bind fun a=>(gZ f hi l.length).bind fun h=>if 0≤a∧a≤h∧h≤l.length then some (fW ((l.drop a.toNat).take (h.toNat-a.toNat)))else none:=by
 unfold fW;rw[acw,List.length_map];simp only[acv]
@[irreducible] def cl{α:Type}(f:α→List D)(l:List α):List D:=(l.map f).flatten
theorem lF{α:Type}(f:α→List D)(l:List α):cl f l=(l.map f).flatten:=by rw[cl]
@[simp] theorem acx(sz:Nat)(H:U)(es:List (List D)):jx sz H (.sl sz es)=some (es.flatten,es.length):=by simp[jx]
@[simp] theorem Ba{α:Type}(sz:Nat)(f:α→List D)(H:U)(l:List α):jx sz H (.sl sz (l.map f))=some (cl f l,l.length):=by
 rw[acx,List.length_map,lF]
@[simp] theorem ame(H:U)(l:List Int):jx 1 H (dI l)=some (cl f1 l,l.length):=by unfold dI;exact Ba ..
@[simp] theorem ami(H:U)(l:List Pos):jx 5 H (fW l)=some (cl Pos.cells l,l.length):=by unfold fW;exact Ba ..
@[simp] theorem amh(H:U)(l:List eT):jx 2 H (gq l)=some (cl fS l,l.length):=by unfold gq;exact Ba ..
@[simp] theorem amf{α:Type}(sz:Nat)(f:α→List D)(H:U)(l:List α):jx sz H (dN sz f l)=some (cl f l,l.length):=by
 cases l with
 | nil=>show some ([],0)=_;rw[lF];rfl
 | cons a l=>exact Ba sz f H (a::l)
@[simp] theorem amj(sz:Nat)(H:U):jx sz H .emp=some ([],0):=rfl
@[simp] theorem aml(sz:Nat)(H:U)(v g off len:Nat):jx sz H (.eN v g sz off len)=(rowAt H v g).bind fun p=>if (off+len)*sz≤p.2.length then some ((p.2.drop (off*sz)).take (len*sz),len)else none:=by
 simp only[jx]
 cases rowAt H v g<;>simp
@[simp] theorem afr(t sz bytes v g len:Nat)(y:D)(H:U)(vn:Nat):o3 t sz bytes (.eN v g sz 0 len) y H vn=(jx sz H y).bind fun q=>(rowAt H v g).bind fun r=>if r.1=t∧len*sz≤r.2.length∧(len+q.2)*bytes≤140737488355328∧len+q.2≤9223372036854775807 then some (.eN v (g+1) sz 0 (len+q.2),.obj v (.row t (g+1) (r.2.take (len*sz)++q.1)))else none:=by
 simp only[o3]
 cases jx sz H y with
 | none=>rfl
 | some q=>cases rowAt H v g<;>simp
@[simp low] theorem afs(t sz bytes v g off len:Nat)(y:D)(H:U)(vn:Nat):o3 t sz bytes (.eN v g sz off len) y H vn=(jx sz H y).bind fun q=>(rowAt H v g).bind fun r=>if r.1=t∧(off+len)*sz≤r.2.length∧(len+q.2)*bytes≤140737488355328∧len+q.2≤9223372036854775807 then some (.eN v (g+1) sz 0 (len+q.2),.obj v (.row t (g+1) ((r.2.drop (off*sz)).take (len*sz)++q.1)))else none:=by
 simp only[o3]
 cases jx sz H y with
 | none=>rfl
 | some q=>cases rowAt H v g<;>simp
@[simp] theorem afn(t sz bytes:Nat)(y:D)(H:U)(vn:Nat):o3 t sz bytes .emp y H vn=(jx sz H y).bind fun q=>if q.2=0 then some (.emp,.no)else if q.2*bytes≤140737488355328∧q.2≤9223372036854775807 then some (.eN vn 0 sz 0 q.2,.new (.row t 0 q.1))else none:=by
 simp only[o3]
 cases jx sz H y<;>rfl
@[simp] theorem ajE(t sz bytes:Nat)(z:List D)(k k':IntKind)(n m:Int)(v:Nat):xF t sz bytes z (.val (.int k n)) (.val (.int k' m)) v=if 0≤n∧n≤m∧np m 9223372036854775807∧np ((bytes:Int)*m) 281474976710656 then some (.eN v 0 sz 0 n.toNat,.new (.row t 0 (List.replicate m.toNat z).flatten))else none:=rfl
@[simp] theorem ai4(n:Int)(k:Nat):np n k=(n≤(k:Int)):=rfl
@[simp] theorem air(f:fD):nQ f []=some []:=rfl
def Jb:D→Option Int
 | .val (.int .i64 n)=>some n
 | _=>none
@[simp] theorem aij(n:Int):Jb (.i n)=some n:=rfl
@[simp] theorem aiq(f:fD)(x:X)(r:List X):nQ f (x::r)=(Jb (ev f x)).bind fun n=>(nQ f r).bind fun l=>some (n::l):=by
 show(match ev f x,nQ f r with | .val (.int .i64 n),some l=>some (n::l)|_,_=>none)=_
 unfold Jb
 split
 ·rename_i h1 h2;rw[h1,h2];rfl
 ·rename_i h
  split
  ·rename_i n hn
   cases hl:nQ f r with
   | none=>rfl
   | some l=>exact absurd hl (h _ _ hn)
  ·rfl
def JF(isMax:Bool):List Int→Option D
 | [a,b]=>some (.i (if isMax then max a b else min a b))
 | [a,b,c]=>some (.i (if isMax then max (max a b) c else min (min a b) c))
 | _=>none
@[simp] theorem mm2(m:Bool)(a b:Int):JF m [a,b]=some (.i (if m then max a b else min a b)):=rfl
@[simp] theorem ajD(f:fD)(m:Bool)(xs:List X):xE f m xs=(nQ f xs).bind (JF m):=by
 unfold xE
 cases nQ f xs with
 | none=>rfl
 | some l=>simp only[Option.bind_some];unfold JF;split<;>simp_all
@[simp] theorem af9(f:fD)(g:FuncId)(args:List X):iM f (.call g args)=some (g,args.map (ev f)):=rfl
def DJ(args:List D):D→Option (FuncId×List D)
 | .fn (.func k) first cap=>some (k,first++args++cap)
 | _=>none
@[simp] theorem af8(args:List D)(k:FuncId)(first cap:List D):DJ args (.fn (.func k) first cap)=some (k,first++args++cap):=rfl
@[simp] theorem Rn(f:fD)(g:X)(args:List X):iM f (.callv g args)=DJ (args.map (ev f)) (ev f g):=by
 show(match ev f g with | .fn (.func k) first cap=>some (k,first++args.map (ev f)++cap)|_=>none)=_
 unfold DJ;split<;>simp_all
def Jp(z:D)(ok:Bool):Option D→D
 | some d=>if ok then .tup [d,.b true]else d
 | none=>if ok then .tup [z,.b false]else z
@[simp] theorem ajq(z:D)(ok:Bool)(d:D):Jp z ok (some d)=if ok then .tup [d,.b true]else d:=rfl
@[simp] theorem ajp(z:D)(ok:Bool):Jp z ok none=if ok then .tup [z,.b false]else z:=rfl
@[simp] theorem ajr(kk:KK)(z:D)(ok:Bool)(v:Nat)(k:D)(H:U):vI kk z ok (.omap v) k H=(keyOf k).bind fun kv=>(jW H v).bind fun p=>if p.1=kk∧p.1.has kv=true then some (Jp z ok (ny p.2 kv))else none:=by
 unfold vI
 cases keyOf k with
 | none=>rfl
 | some kv=>
  cases h:jW H v with
  | none=>simp[h]
  | some p=>
   simp only[h,Option.bind_some]
   split
   ·cases ny p.2 kv<;>rfl
   ·rfl
@[simp] theorem ajC(kk:KK)(v:Nat)(k x:D)(H:U):ub kk (.omap v) k x H=(keyOf k).bind fun kv=>(jW H v).bind fun p=>if p.1=kk∧p.1.has kv=true then some (.any,.obj v (.map p.1 (kl p.2 kv x)))else none:=by
 unfold ub
 cases keyOf k with
 | none=>rfl
 | some kv=>cases h:jW H v<;>simp[h]
def mapOf:Option Ob→Option (KK×List (Value×D))
 | some (.map kk es)=>some (kk,es)
 | _=>none
@[simp] theorem ajB(kk:KK)(es:List (Value×D)):mapOf (some (.map kk es))=some (kk,es):=rfl
@[simp] theorem ajA(H:U)(v:Nat):jW H v=mapOf H[v]? := by
 unfold jW mapOf;split<;>simp_all
@[simp] theorem aiT(s:ByteArray):keyOf (.val (.string s))=some (.string s):=rfl
@[simp] theorem aiR(b:Bool):keyOf (.b b)=some (.bool b):=rfl
@[simp] theorem aiS(k:IntKind)(n:Int):keyOf (.val (.int k n))=some (.int k n):=rfl
@[simp] theorem ahs(ls:List mi)(neg:Bool)(x y:D):uW false ls neg x y=(lV ls [x] [y]).bind fun r=>some (.b (if neg then !r else r)):=by
 simp only[uW]
 cases lV ls [x] [y]<;>rfl
@[simp] theorem ahr(ls:List mi)(neg:Bool)(x y:List D):uW true ls neg (.agg x) (.agg y)=(lV ls x y).bind fun r=>some (.b (if neg then !r else r)):=by
 simp only[uW]
 cases lV ls x y<;>rfl
@[simp] theorem age:lV [] [] []=some true:=rfl
@[simp] theorem agd(l:mi)(ls:List mi)(x y:D)(xs ys:List D):lV (l::ls) (x::xs) (y::ys)=(p8 l x y).bind fun a=>(lV ls xs ys).bind fun b=>some (a&&b):=by
 show(match p8 l x y,lV ls xs ys with|some a,some b=>some (a&&b)|_,_=>none)=_
 cases p8 l x y<;>cases lV ls xs ys<;>rfl
@[simp] theorem agb(a b:Int):p8 .int (.i a) (.i b)=some (decide (a=b)):=by simp[p8,BEq.beq]
@[simp] theorem aga(a b:Bool):p8 .bool (.b a) (.b b)=some (a == b):=rfl
@[simp] theorem agc(a b:ByteArray):p8 .str (.val (.string a)) (.val (.string b))=some (a.data.toList == b.data.toList):=rfl
attribute [simp] ft kill pV xV fu im rW qz pF pE kG FN lay Al.last ny kl ox KK.has fm
@[simp] theorem amY(v g sz off n:Nat):lg (.eN v g sz off n) = [(v,none)]:=rfl
@[simp] theorem amX(v:Nat):lg (.omap v) = [(v,none)]:=rfl
@[simp] theorem am0(sz:Nat)(es:List (List D)):lg (.sl sz es) = []:=rfl
@[simp] theorem amV:lg .emp = []:=rfl
@[simp] theorem am1(v:Value):lg (.val v) = []:=rfl
@[simp] theorem amT(cs:List D):lg (.agg cs) = []:=rfl
@[simp] theorem amW(cs:List D):lg (.eZ cs) = []:=rfl
@[simp] theorem amZ(v g o:Nat):lg (.ptr v g o) = []:=rfl
@[simp] theorem amU(l:List Int):lg (dI l) = []:=by unfold dI;rfl
def XB(d:D)(P Q:Prop)(_:Tag (PProd.mk P Q)):Prop:=∃ x,d = .b x∧(x=true→P)∧(x=false→Q)
def X2(x:Bool)(P Q:Prop)(_:Tag (PProd.mk P Q)):Prop:=(x=true→P)∧(x=false→Q)
@[simp] theorem adq(P Q:Prop):X2 true P Q .mk=P:=by simp[X2]
@[simp] theorem adn(P Q:Prop):X2 false P Q .mk=Q:=by simp[X2]
@[simp] theorem ado(x:Bool)(P Q:Prop):X2 (!x) P Q .mk=X2 x Q P .mk:=by cases x<;>simp[X2]
@[simp] theorem adp(x y:Bool)(P Q:Prop):X2 (!x || !y) P Q .mk=X2 (x&&y) Q P .mk:=by cases x<;>cases y<;>simp[X2]
theorem X2.d{p:Prop}[Decidable p]{P Q:Prop}(h:p→P)(k:¬p→Q):X2 (decide p) P Q .mk:=⟨fun e=>h (of_decide_eq_true e),fun e=>k (of_decide_eq_false e)⟩
theorem X2.a{p q:Prop}[Decidable p][Decidable q]{P Q:Prop}(h:p→q→P)(k:¬(p∧q)→Q):X2 (decide p&&decide q) P Q .mk:=by
 rw[← eA];exact X2.d (fun e=>h e.1 e.2) k
theorem X2.o{p q:Prop}[Decidable p][Decidable q]{P Q:Prop}(h:p∨q→P)(k:¬(p∨q)→Q):X2 (decide p||decide q) P Q .mk:=by
 rw[← eD];exact X2.d h k
theorem X2.z{p:Prop}[Decidable p]{P Q:Prop}(h:¬p)(k:Q):X2 (decide p) P Q .mk:=X2.d (fun n=>absurd n h) (fun _=>k)
@[simp] theorem ads(x:Bool)(a b:D)(P Q:Prop):XB (bif x then a else b) P Q .mk=X2 x (XB a P Q .mk) (XB b P Q .mk) .mk:=by
 cases x<;>simp
theorem X2.b{x:Bool}{P Q:Prop}(h:x=true→P)(k:x=false→Q):X2 x P Q .mk:=⟨h,k⟩
theorem Xg{p q:Prop}(b:q)(a:p:=by first|omega|assumption):p∧q:=⟨a,b⟩
@[simp] theorem adr(x:Bool)(P Q:Prop):XB (.b x) P Q .mk=X2 x P Q .mk:=by
 cases x<;>simp[XB,X2]
@[simp high] theorem adu(P Q:Prop):XB (.b true) P Q .mk=P:=by simp[XB]
@[simp high] theorem adt(P Q:Prop):XB (.b false) P Q .mk=Q:=by simp[XB]
def XG(g:Option Bool)(P Q:Prop)(_:Tag (PProd.mk P Q)):Prop:=∃ x,g=some x∧(x=true→P)∧(x=false→Q)
@[simp] theorem adK(x:Bool)(P Q:Prop):XG (some x) P Q .mk=X2 x P Q .mk:=by
 cases x<;>simp[XG,X2]
@[simp high] theorem adN(P Q:Prop):XG (some true) P Q .mk=P:=by simp[XG]
@[simp high] theorem adM(P Q:Prop):XG (some false) P Q .mk=Q:=by simp[XG]
@[simp] theorem adL(x w:Bool)(a b:D)(P Q:Prop):XG (gB (bif x then a else b) w) P Q .mk=X2 x (XG (gB a w) P Q .mk) (XG (gB b w) P Q .mk) .mk:=by
 cases x<;>simp
def kp(s:St)(dst:Option Nat)(K:St→Prop):D×Dl→Prop:=fun p=>K { s with env:=put s.env dst p.1,H:=p.2.app s.H (Al.last s.H) }
def kt(s:St)(dst:Option Nat)(R:List Fp)(Q:Rc→St→Prop):D×Dl→Prop:=fun p=>Q ⟨R,im s.H.length p.2⟩ { s with env:=put s.env dst p.1,H:=p.2.app s.H (Al.last s.H) }
section
variable(T:gb)
def fr(f:FuncId)(args:List D)(dst:Option Nat)(s:St)(K:St→Prop)(_:Tag (dst,s,K)):Prop:=
 (∃ fn,T.fn f=some fn∧fn.full=false∧Wf T f (args.map (eS (fun _=>none) s.H 40)) [] fun d Hn=>oA (after s dst args d Hn) K .mk) ∨
 (∃ fn,T.fn f=some fn∧fn.full=true∧Wf T f args s.H fun d H'=>K { s with env:=put s.env dst d,H:=H' })
def gR(f:FuncId)(args:List D)(R:List Fp)(dst:Option Nat)(s:St)(Q:Rc→St→Prop)(_:Tag (dst,s,Q)):Prop:=
 ∃ fn d,T.fn f=some fn∧fn.full=false∧Wf T f (args.map (eS (fun _=>none) s.H 40)) [] (fun d' Hn=>d'=d∧Hn = [])∧(if fm args then closed d else flat d)=true∧Q ⟨R,[]⟩ { s with env:=put s.env dst d }
def ta(f:FuncId)(args:List D)(R:List Fp)(dst:Option Nat)(s:St)(Q:Rc→St→Prop)(t:Tag (dst,s,Q)):Prop:=
 gR T f args R dst s Q t∨∃ fn d ob,T.fn f=some fn∧fn.full=false∧Wf T f (args.map (eS (fun _=>none) s.H 40)) [] (fun d' Hn=>d'=d∧Hn = [ob]) ∧
  (if fm args then kE d&&lG ob else mD d&&mJ ob)=true∧Q ⟨R,[(s.H.length,none)]⟩ { s with env:=put s.env dst (iO s.H.length d),H:=s.H ++ [ob] }
def p7(f:FuncId)(args:List D)(R:List Fp)(dst:Option Nat)(s:St)(Q:Rc→St→Prop)(t:Tag (dst,s,Q)):Prop:=
 ta T f args R dst s Q t∨∃ fn d v,T.fn f=some fn∧fn.full=false∧(∀ u∈(args.map (fX s.H 40)).flatten,u=v)∧v∈(args.map (fX s.H 40)).flatten∧(rowsOf s.H v).isSome=true ∧
  fm (args.map (eS (fun _=>none) s.H 40))=true∧Wf T f (args.map (eS (fun _=>none) s.H 40)) [] (fun d' Hn=>d'=d∧Hn = [])∧closed d=true∧Q ⟨R,[(v,none)]⟩ { s with env:=put s.env dst d,H:=s.H.set v .dead }
def vV(v rf:Nat)(dst:Option Nat)(s:St)(K:St→Prop):gv:=fun o=>∃ ja,o.st.H[v]? = some (.fZ rf ja .busy)∧K { s with env:=put s.env dst (.b !o.stop),H:=o.st.H.set v (.fZ rf ja o.uq) }
def n5(v:Nat)(args:List D)(dst:Option Nat)(s:St)(K:St→Prop)(_:Tag (dst,s,K)):Prop:=
 ∃ rf env0 Rd,s.H[v]? = some (.fZ rf env0 .ready)∧T.round rf=some Rd∧args.length=Rd.params.length ∧
  Wc T Rd.a { env:=px Rd.params args env0,H:=s.H,fL:=true } fun o=>∃ s1 jj,o = .norm s1∧s1.H[v]? = some (.fZ rf jj .ready)∧Wc T Rd.b { s1 with H:=s1.H.set v (.fZ rf jj .busy) } (vV v rf dst s K)
def qQ(d:D)(args:List D)(dst:Option Nat)(s:St)(K:St→Prop)(t:Tag (dst,s,K)):Prop:=
 match d with
 | .gO v=>n5 T v args dst s K t
 | d=>oA (DJ args d) (fun p=>fr T p.1 p.2 dst s K t) .mk
def rO(x:D)(dst:Option Nat)(s:St)(K:St→Prop)(_:Tag (dst,s,K)):Prop:=
 ∃ v m since seen kk es,x = .ptr v 0 0∧s.H[v]? = some (.jt (.omap m) since seen)∧s.H[m]? = some (.map kk es)∧es.length=since ∧
  ((∀ i,i<es.length→i∈seen)→K { s with env:=put s.env dst (.tup [.b false]) }) ∧
  (∀ i k d,es[i]? = some (k,d)→i ∉ seen→K { s with env:=put s.env dst (.tup [.b true,.val k,d]),H:=s.H.set v (.jt (.omap m) since (seen ++ [i])) })
def gF(op:gp)(dst:Option Nat)(s:St)(K:St→Prop):Prop:=
 match op with
 | .call f args=>fr T f (args.map (ev s.env.get)) dst s K .mk
 | .callN f args=>fr T f (args.map (ev s.env.get)) dst s K .mk
 | .callv f args=>qQ T (ev s.env.get f) (args.map (ev s.env.get)) dst s K .mk
 | .nilS a b=>oA (kG s.env.get s.H s.H.length (.nilS a b)) (kp s dst K) .mk
 | .capE a=>oA (kG s.env.get s.H s.H.length (.capE a)) (kp s dst K) .mk
 | .appZ a b c d e f=>oA (kG s.env.get s.H s.H.length (.appZ a b c d e f)) (kp s dst K) .mk
 | .clr a b c=>oA (kG s.env.get s.H s.H.length (.clr a b c)) (kp s dst K) .mk
 | .rangeS a=>oA (kG s.env.get s.H s.H.length (.rangeS a)) (kp s dst K) .mk
 | .nextS a=>oA (kG s.env.get s.H s.H.length (.nextS a)) (kp s dst K) .mk
 | .rangeM a=>oA (kG s.env.get s.H s.H.length (.rangeM a)) (kp s dst K) .mk
 | .entry a=>oA (kG s.env.get s.H s.H.length (.entry a)) (kp s dst K) .mk
 | .nextM a=>rO (ev s.env.get a) dst s K .mk
 | op=>oA (ft s.env.get s.H s.H.length op) (kp s dst K) .mk
def iy(op:gp)(dst:Option Nat)(s:St)(Q:Rc→St→Prop):Prop:=
 match op with
 | .call f args=>gR T f (args.map (ev s.env.get)) (fu s.env.get s.H (.call f args)) dst s Q .mk
 | .callN f args=>p7 T f (args.map (ev s.env.get)) (fu s.env.get s.H (.callN f args)) dst s Q .mk
 | .callv f args=>oA (iM s.env.get (.callv f args)) (fun p=>gR T p.1 p.2 (fu s.env.get s.H (.callv f args)) dst s Q .mk) .mk
 | op=>oA (ft s.env.get s.H s.H.length op) (kt s dst (fu s.env.get s.H op) Q) .mk
def XO:List fo→St→(St→Prop)→Prop
 | [],s,K=>K s
 | e::r,s,K=>XG (guardOf s.env.get e.guard) (gF T e.op e.dst s fun s'=>XO r s' K) (XO r { s with env:=put s.env e.dst (.val undef) } K) .mk
def XT:List fo→St→(List Rc→St→Prop)→Prop
 | [],s,K=>K [] s
 | e::r,s,K=>XG (guardOf s.env.get e.guard) (iy T e.op e.dst s fun rc s'=>XT r s' fun rs s2=>K (rc::rs) s2) (XT r { s with env:=put s.env e.dst (.val undef) } fun rs s2=>K (⟨[],[]⟩::rs) s2) .mk
end
section
variable{T:gb}
theorem JM{α:Type}{x:Option α}{P Q:α→Prop}{t:Tag P}{u:Tag Q}(h:oA x P t)(hi:∀ a,P a→Q a):oA x Q u:=by
 obtain⟨a,h1,h2⟩:=h;exact⟨a,h1,hi a h2⟩
theorem fr.mono{f:FuncId}{args:List D}{dst:Option Nat}{s:St}{K K':St→Prop}{t:Tag (dst,s,K)}{u:Tag (dst,s,K')}(h:fr T f args dst s K t)(hi:∀ s,K s→K' s):fr T f args dst s K' u:=by
 rcases h with⟨fn,hf,hp,h⟩|⟨fn,hf,hp,h⟩
 ·exact .inl ⟨fn,hf,hp,Wf.mono h fun d Hn h=>JM h hi⟩
 ·exact .inr ⟨fn,hf,hp,Wf.mono h fun d H h=>hi _ h⟩
theorem n5.mono{v:Nat}{args:List D}{dst:Option Nat}{s:St}{K K':St→Prop}{t:Tag (dst,s,K)}{u:Tag (dst,s,K')}(h:n5 T v args dst s K t)(hi:∀ s,K s→K' s):n5 T v args dst s K' u:=by
 obtain⟨rf,env0,Rd,hv,hR,hl,h⟩:=h
 exact⟨rf,env0,Rd,hv,hR,hl,h.mono fun o ⟨s1,jj,he,h1,h2⟩=>⟨s1,jj,he,h1,h2.mono fun o ⟨ja,h3,h4⟩=>⟨ja,h3,hi _ h4⟩⟩⟩
theorem qQ.mono{d:D}{args:List D}{dst:Option Nat}{s:St}{K K':St→Prop}{t:Tag (dst,s,K)}{u:Tag (dst,s,K')}(h:qQ T d args dst s K t)(hi:∀ s,K s→K' s):qQ T d args dst s K' u:=by
 unfold qQ at h ⊢
 split at h
 ·exact n5.mono h hi
 ·exact JM h fun p hp=>fr.mono hp hi
theorem rO.mono{x:D}{dst:Option Nat}{s:St}{K K':St→Prop}{t:Tag (dst,s,K)}{u:Tag (dst,s,K')}(h:rO x dst s K t)(hi:∀ s,K s→K' s):rO x dst s K' u:=by
 obtain⟨v,m,since,seen,kk,es,h1,h2,h3,h4,h5,h6⟩:=h
 exact⟨v,m,since,seen,kk,es,h1,h2,h3,h4,fun h=>hi _ (h5 h),fun i k d e1 e2=>hi _ (h6 i k d e1 e2)⟩
theorem gF.mono{op:gp}{dst:Option Nat}{s:St}{K K':St→Prop}(h:gF T op dst s K)(hi:∀ s,K s→K' s):gF T op dst s K':=by
 unfold gF at h ⊢
 split at h<;>first
  | exact fr.mono h hi
  | exact qQ.mono h hi
  | exact rO.mono h hi
  | exact JM h fun p hp=>hi _ hp
theorem XO.mono:∀ {l:List fo} {s:St} {K K':St→Prop},XO T l s K→(∀ s,K s→K' s)→XO T l s K'
 | [],s,K,K',h,hi=>hi s h
 | e::r,s,K,K',h,hi=>by
  obtain⟨x,hg,ht,hf⟩:=h
  exact⟨x,hg,fun e=>gF.mono (ht e) fun s' h=>XO.mono h hi,fun e=>XO.mono (hf e) hi⟩
theorem fr.wo{f:FuncId}{args:List D}{s:St}{K:St→Prop}{e:fo}{r:List fo}(hg:guardOf s.env.get e.guard=some true)(hc:iM s.env.get e.op=some (f,args))(h:fr T f args e.dst s (fun s'=>Wo T r s' K) .mk):Wo T (e::r) s K:=by
 rcases h with⟨fn,hf,hp,h⟩|⟨fn,hf,hp,h⟩
 ·refine Ev.yU hg hc hf hp h (fun d Hn hd=>?_) fun d Hn s' hd fH=>?_
  ·obtain⟨d',H',he,s',hs,hk⟩:=hd
   cases he;rw[hs];rfl
  ·obtain⟨d',H',he,s2,hs,hk⟩:=hd
   cases he
   rw[hs]at fH;cases fH
   exact hk
 ·exact Ev.yT hg hc hf hp h fun d H' hd=>by
   obtain⟨d',H2,he,hk⟩:=hd
   cases he;exact hk
theorem XO.rE{l2:List fo}{K:St→Prop}:∀ {l:List fo} {s:St},XO T l s (fun s'=>Wo T l2 s' K)→Wo T (l++l2) s K
 | [],s,h=>h
 | e::r,s,h=>by
  obtain⟨x,hg,ht,hf⟩:=h
  cases x with
  | false=>exact Wo.off hg (XO.rE (hf rfl))
  | true=>
   have h:=ht rfl
   have plain:oA (ft s.env.get s.H s.H.length e.op) (kp s e.dst fun s'=>XO T r s' fun s'=>Wo T l2 s' K) .mk→Wo T (e::r++l2) s K:=fun⟨⟨d,δ⟩,hd,hk⟩=>Wo.op hg hd (XO.rE hk)
   have sp:oA (kG s.env.get s.H s.H.length e.op) (kp s e.dst fun s'=>XO T r s' fun s'=>Wo T l2 s' K) .mk→Wo T (e::r++l2) s K:=fun⟨⟨d,δ⟩,hd,hk⟩=>Wo.v8 hg hd (XO.rE hk)
   have call:∀ f args,iM s.env.get e.op=some (f,args)→fr T f args e.dst s (fun s'=>XO T r s' fun s'=>Wo T l2 s' K) .mk→Wo T (e::r++l2) s K:=fun f args hc hx=>by
    refine fr.wo hg hc ?_
    rcases hx with⟨fn,hf,hp,h⟩|⟨fn,hf,hp,h⟩
    ·exact .inl ⟨fn,hf,hp,Wf.mono h fun d Hn ⟨s',h1,h2⟩=>⟨s',h1,XO.rE h2⟩⟩
    ·exact .inr ⟨fn,hf,hp,Wf.mono h fun d Hn h1=>XO.rE h1⟩
   unfold gF at h
   split at h
   case h_1 f args he=>exact call _ _ (by rw[he];rfl) h
   case h_2 f args he=>exact call _ _ (by rw[he];rfl) h
   case h_3 f args he=>
    unfold qQ at h
    split at h
    ·rename_i v hv
     obtain⟨rf,env0,Rd,mQ,hR,hl,h⟩:=h
     have hy:yieldOf s.env.get e.op=some (v,args.map (ev s.env.get)):=by rw[he];simp only[yieldOf,hv]
     refine Ev.DI hg hy mQ hR hl h (fun o ⟨o',e1,s1,jj,e2,h1,h2⟩=>?_) (Rb:=PO (vV v rf e.dst s fun s'=>XO T r s' fun s'=>Wo T l2 s' K)) (fun s1 jj ⟨o',e1,s2,ja,e2,h1,h2⟩ h3=>?_) (fun o ⟨o',e1,ja,h1,h2⟩=>?_) fun o ja ⟨o',e1,ahq,h1,h2⟩ h3=>?_
     ·cases e1;subst e2;exact⟨rfl,jj,h1⟩
     ·cases e1;cases e2
      rw[h1]at h3;cases h3;exact h2
     ·cases e1;exact⟨ja,h1⟩
     ·cases e1
      rw[h1]at h3;cases h3
      exact XO.rE h2
    ·rename_i hn
     obtain⟨p,hp,h⟩:=h
     exact call p.1 p.2 (by rw[he,Rn];exact hp) h
   case h_12 a he=>
    obtain⟨v,m,since,seen,kk,es,h1,h2,h3,h4,h5,h6⟩:=h
    exact Ev.next hg he h1 h2 h3 h4 (fun k=>XO.rE (h5 k)) fun i k d e1 e2=>XO.rE (h6 i k d e1 e2)
   case h_13=>exact plain h
   all_goals (rename_i he;exact sp (by rw[he];exact h))
theorem XO.wo{l:List fo}{s:St}{K:St→Prop}(h:XO T l s K):Wo T l s K:=by
 have:=XO.rE (l2:=[]) (K:=K) (XO.mono h fun s' k=>Wo.nil k)
 rwa [aw]at this
theorem XT.wt:∀ {l:List fo} {s:St} {K:List Rc→St→Prop},XT T l s K→Wt T l s K
 | [],s,K,h=>Wt.nil h
 | e::r,s,K,h=>by
  obtain⟨x,hg,ht,hf⟩:=h
  cases x with
  | false=>exact Wt.off hg (XT.wt (hf rfl))
  | true=>
   have h:=ht rfl
   have call:∀ f args,iM s.env.get e.op=some (f,args)→gR T f args (fu s.env.get s.H e.op) e.dst s (fun rc s'=>XT T r s' fun rs s2=>K (rc::rs) s2) .mk→Wt T (e::r) s K:=fun f args hc ⟨fn,d,hf,hp,hw,fE,hk⟩=>
    Ev.Bf hg hc hf hp hw (fun d' Hn ⟨d2,H2,he,hd⟩=>by cases he;exact hd) fE (XT.wt hk) fun rs s' ⟨P5,s2,he,k⟩=>by cases he;exact⟨_,_,rfl,k⟩
   unfold iy at h
   split at h
   case h_1 f args he=>exact call _ _ (by rw[he];rfl) (by rw[he];exact h)
   case h_2 f args he=>
    rcases h with(h|⟨fn,d,ob,hf,hp,hw,fE,hk⟩)|⟨fn,d,v,hf,hp,hS,hv,fR,fE,hw,hr,hk⟩
    ·exact call _ _ (by rw[he];rfl) (by rw[he];exact h)
    ·exact Ev.Bg hg he rfl hf hp hw (fun d' Hn ⟨d2,H2,he,hd⟩=>by cases he;exact hd) fE (XT.wt hk) fun rs s' ⟨P5,s2,e2,k⟩=>by cases e2;rw[he];exact⟨_,_,rfl,k⟩
    ·exact Ev.Bh hg he rfl hf hp hS hv fR fE hw (fun d' Hn ⟨d2,H2,he,hd⟩=>by cases he;exact hd) hr (XT.wt hk) fun rs s' ⟨P5,s2,e2,k⟩=>by cases e2;rw[he];exact⟨_,_,rfl,k⟩
   case h_3 f args he=>obtain⟨p,hp,h⟩:=h;exact call p.1 p.2 (by rw[he];exact hp) (by rw[he];exact h)
   case h_4=>obtain⟨⟨d,δ⟩,hd,hk⟩:=h;exact Wt.op hg hd (XT.wt hk)
end
def jq:IR→IR
 | .seq a b=>.seq (jq a) (jq b)
 | .cond c a b=>.cond c (jq a) (jq b)
 | .block id live a=>.block id live (jq a)
 | .loop live a=>.loop live (jq a)
 | .fz _ a=>jq a
 | .qf _ a b=>.ops (a++b)
 | c=>c
def pk:IR→Bool
 | .seq a b=>pk a&&pk b
 | .cond _ a b=>pk a&&pk b
 | .block _ _ a=>pk a
 | .loop _ a=>pk a
 | .fz _ _=>false
 | .qf _ _ _=>false
 | _=>true
theorem mh:∀ {c:IR},pk c=true→jq c=c
 | .seq a b,h=>by simp only[pk,ah]at h;rw[jq,mh h.1,mh h.2]
 | .cond _ a b,h=>by simp only[pk,ah]at h;rw[jq,mh h.1,mh h.2]
 | .block _ _ a,h=>by rw[jq,mh (c:=a) h]
 | .loop _ a,h=>by rw[jq,mh (c:=a) h]
 | .fz _ _,h=>by cases h
 | .qf _ _ _,h=>by cases h
 | .skip,_ | .ops _,_ | .draw _ _,_ | .kh _ _ _,_ | .kF _ _ _,_ | .exit _,_ | .ret,_ | .bad,_=>rfl
def jN(k:Nat):List fo→Bool
 | { dst:=some j,.. }::_=>decide (j=k)
 | _=>false
def gH(k:Nat)(S:List Nat):IR→IR
 | .ops l=>bif jN k l then .fz S (.ops l)else .ops l
 | .draw p l=>bif jN k l then .fz S (.draw p l)else .draw p l
 | .kh p l e=>bif jN k l then .fz S (.kh p l e)else .kh p l e
 | .seq a b=>.seq (gH k S a) (gH k S b)
 | .cond c a b=>.cond c (gH k S a) (gH k S b)
 | .block id live a=>.block id live (gH k S a)
 | .loop live a=>.loop live (gH k S a)
 | .fz S' a=>.fz S' (gH k S a)
 | c=>c
theorem uA(k:Nat)(S:List Nat):∀ c:IR,jq (gH k S c)=jq c
 | .ops l=>by unfold gH;cases jN k l<;>rfl
 | .draw p l=>by unfold gH;cases jN k l<;>rfl
 | .kh p l e=>by unfold gH;cases jN k l<;>rfl
 | .seq a b=>by simp only[gH,jq,uA k S a,uA k S b]
 | .cond c a b=>by simp only[gH,jq,uA k S a,uA k S b]
 | .block id live a=>by simp only[gH,jq,uA k S a]
 | .loop live a=>by simp only[gH,jq,uA k S a]
 | .fz S' a=>by simp only[gH,jq,uA k S a]
 | .skip | .kF _ _ _ | .exit _ | .ret | .bad | .qf _ _ _=>rfl
def kU(k:Nat):List fo→List fo
 | []=>[]
 | e::r=>bif jN k [e]then []else e::kU k r
def kX(k:Nat):List fo→List fo
 | []=>[]
 | e::r=>bif jN k [e]then e::r else kX k r
def lr(k:Nat):List fo→Bool
 | []=>false
 | e::r=>jN k [e]||lr k r
theorem LD(k:Nat):∀ l:List fo,kU k l++kX k l=l
 | []=>rfl
 | e::r=>by unfold kU kX;cases jN k [e]<;>simp[LD k r]
def iJ(k:Nat)(S:List Nat):IR→IR
 | .ops l=>bif lr k l then .qf S (kU k l) (kX k l)else .ops l
 | .seq a b=>.seq (iJ k S a) (iJ k S b)
 | .cond c a b=>.cond c (iJ k S a) (iJ k S b)
 | .block id live a=>.block id live (iJ k S a)
 | .loop live a=>.loop live (iJ k S a)
 | .fz S' a=>.fz S' (iJ k S a)
 | c=>c
theorem uB(k:Nat)(S:List Nat):∀ c:IR,jq (iJ k S c)=jq c
 | .ops l=>by unfold iJ;cases lr k l<;>simp[jq,LD]
 | .seq a b=>by simp only[iJ,jq,uB k S a,uB k S b]
 | .cond c a b=>by simp only[iJ,jq,uB k S a,uB k S b]
 | .block id live a=>by simp only[iJ,jq,uB k S a]
 | .loop live a=>by simp only[iJ,jq,uB k S a]
 | .fz S' a=>by simp only[iJ,jq,uB k S a]
 | .skip | .kF _ _ _ | .exit _ | .ret | .bad | .qf _ _ _ | .draw _ _ | .kh _ _ _=>rfl
def eW(T:gb)(live:List Nat)(a:IR)(s:St)(K:gv)(_:Tag (live,a,s,K)):Prop:=Wc T (.loop live (jq a)) s K
def p6(T:gb)(rf:Nat)(live:List Nat)(x:X)(s:St)(K:gv)(_:Tag (live,x,s,K)):Prop:=Wc T (.kF rf live x) s K
@[irreducible] def rr(m S:List Nat):Bool:=m.all fun v => !S.contains v
theorem Av(m S:List Nat):rr m S=m.all fun v => !S.contains v:=by unfold rr;rfl
@[simp] theorem WM(S:List Nat):rr [] S=true:=by rw[Av];rfl
@[simp] theorem ajz(v:Nat)(m S:List Nat):rr (v::m) S=(!decide (v∈S)&&rr m S):=by rw[Av,Av,List.all_cons,List.contains_eq_mem]
def GM:D→List Nat
 | .agg cs=>(cs.map (gE 0)).flatten
 | _=>[]
@[simp] theorem afj(cs:List D):GM (.agg cs)=(cs.map (gE 0)).flatten:=rfl
def mK(env:Env):List Nat→List Nat
 | []=>[]
 | v::r=>if v<1000 then v::mK env r else if v<2000 then gE 0 (env.get (v-1000))++mK env r else GM (env.get (v-2000))++mK env r
@[simp] theorem ah2(env:Env):mK env [] = []:=rfl
@[simp] theorem ah1(env:Env)(v:Nat)(r:List Nat):mK env (v::r)=if v<1000 then v::mK env r else if v<2000 then gE 0 (env.get (v-1000))++mK env r else GM (env.get (v-2000))++mK env r:=rfl
def XC(T:gb):IR→St→gv→Prop
 | .skip,s,K=>K (.norm s)
 | .ops l,s,K=>XO T l s fun s'=>K (.norm s')
 | .draw ic l,s,K=>XT T l s fun rs s'=>qz ic rs=true∧K (.norm s')
 | .kh ic l es,s,K=>XT T l s fun rs s'=>qz ic rs=true∧XO T es s' fun s'=>K (.norm s')
 | .seq a b,s,K=>XC T a s fun o=>match o with
  | .norm s'=>XC T b s' K
  | o=>K o
 | .cond c a b,s,K=>XB (ev s.env.get c) (XC T a s K) (XC T b s K) .mk
 | .block id live a,s,K=>XC T a s fun o=>K (kJ id s.H.length live o)
 | .loop live a,s,K=>eW T live a s K .mk
 | .kF rf live x,s,K=>p6 T rf live x s K .mk
 | .exit id,s,K=>K (.exit id s)
 | .ret,s,K=>K (.ret s)
 | .bad,_,_=>False
 | .fz S a,s,K=>rr s.marks (mK s.env S)=true∧XC T a (jF (mK s.env S) s) K
 | .qf S a b,s,K=>XO T a s fun s'=>rr s'.marks (mK s'.env S)=true∧XO T b (jF (mK s'.env S) s') fun s'=>K (.norm s')
def FR(T:gb)(b:IR)(K:gv):gv:=fun o=>match o with
 | .norm s'=>XC T b s' K
 | o=>K o
def rS(id n:Nat)(live:List Nat)(K:gv):gv:=fun o=>K (kJ id n live o)
section
variable{T:gb}
theorem Wc.jF{c:IR}{s:St}{K:gv}(S:List Nat)(hm:rr s.marks S=true)(h:Wc T c (jF S s) K):Wc T c s K:=Ev.zl S (by rwa [Av]at hm) h
theorem XC.wc:∀ {c:IR} {s:St} {K:gv},XC T c s K→Wc T (jq c) s K
 | .skip,s,K,h=>Wc.skip h
 | .ops l,s,K,h=>Wc.ops (XO.wo h)
 | .draw ic l,s,K,h=>Wc.draw (XT.wt h)
 | .kh ic l es,s,K,h=>Wc.kh (Ev.mono (XT.wt h) fun _ ⟨rs,s',q,k⟩=>⟨rs,s',q,k.1,XO.wo k.2⟩)
 | .seq a b,s,K,h=>Wc.seq ((XC.wc (c:=a) h).mono fun o ho=>by
  cases o with
  | norm s'=>exact XC.wc (c:=b) ho
  | exit=>exact ho
  | ret=>exact ho)
 | .cond _ _ _,_,_,h=>by
  obtain⟨x,hx,ht,hf⟩:=h
  exact Wc.cond x hx (fun e=>XC.wc (ht e)) fun e=>XC.wc (hf e)
 | .block _ _ _,_,_,h=>Wc.block (XC.wc h)
 | .loop live a,s,K,h=>h
 | .kF rf live x,s,K,h=>h
 | .exit id,s,K,h=>Wc.exit h
 | .ret,s,K,h=>Wc.ret h
 | .bad,s,K,h=>h.elim
 | .fz S a,s,K,h=>Wc.jF (mK s.env S) h.1 (XC.wc (c:=a) h.2)
 | .qf S a b,s,K,h=>Wc.ops (XO.rE (XO.mono h fun s' k=>Ev.jF (mK s'.env S) (by have:=k.1;rwa [Av]at this) (XO.wo k.2)))
def pU(ds:List D):D:=match ds with
 | [d]=>d
 | ds=>.tup ds
@[simp] theorem alh(d:D):pU [d]=d:=rfl
@[simp] theorem ali(d e:D):pU [d,e] = .tup [d,e]:=rfl
@[simp] theorem alj(d e f:D):pU [d,e,f] = .tup [d,e,f]:=rfl
@[simp] theorem alg:pU [] = .tup []:=rfl
def tz(rs:List qO)(own n:Nat)(K:D→U→Prop):gv:=fun o=>match o with
 | .norm s | .ret s=>oA (kill s.marks s.H) (fun H=>oA (pV { s with H:=H } rs) (fun ds=>K (leave own n H (pU ds)).1 (leave own n H (pU ds)).2) .mk) .mk
 | .exit _ _=>False
theorem Wf.xz(own:Nat){f:FuncId}{args:List D}{H:U}{fn:eQ}{K:D→U→Prop}(c:IR)(hf:T.fn f=some fn)(hl:args.length≤fn.ntmps)(hc:jq c=fn.body)
  (h:XC T c { env:=pj args,H:=H } (tz fn.results own H.length K)):Wf T f args H K:=by
 have key:∀ s:St,(oA (kill s.marks s.H) (fun H'=>oA (pV { s with H:=H' } fn.results) (fun ds=>K (leave own H.length H' (pU ds)).1 (leave own H.length H' (pU ds)).2) .mk) .mk)→∃ d H',(match kill s.marks s.H with
  | some H1=>match results fn { s with H:=H1 }with
   | some d=>some (leave own H.length H1 d)
   | none=>none
  | none=>none)=some (d,H')∧K d H':=by
  rintro s ⟨H1,h1,ds,h2,hk⟩
  rw[h1]
  refine⟨_,_,?_,hk⟩
  unfold AL.results
  dsimp only
  rw[h2]
  cases ds with
  | nil=>rfl
  | cons a l=>cases l<;>rfl
 refine Wf.call own hf hl (hc▸(XC.wc h).mono fun o ho=>?_)
 cases o with
 | norm s=>exact key s ho
 | ret s=>exact key s ho
 | exit=>exact ho.elim
theorem Wf.xo(own:Nat){f:FuncId}{args:List D}{H:U}{fn:eQ}{K:D→U→Prop}(hf:T.fn f=some fn)(hl:args.length≤fn.ntmps)
  (h:XC T fn.body { env:=pj args,H:=H } (tz fn.results own H.length K)) (hz:pk fn.body=true:=by rfl):Wf T f args H K:=Wf.xz own fn.body hf hl (mh hz) h
theorem Wf.x{f:FuncId}{args:List D}{H:U}{fn:eQ}{K:D→U→Prop}(hf:T.fn f=some fn)(hl:args.length≤fn.ntmps)
  (h:XC T fn.body { env:=pj args,H:=H } (tz fn.results fn.own H.length K)) (hz:pk fn.body=true:=by rfl):Wf T f args H K:=Wf.xo fn.own hf hl h hz
theorem fr.is{f:FuncId}{args:List D}{dst:Option Nat}{s:St}{K:St→Prop}{fn:eQ}{K0:D→U→Prop}(hf:T.fn f=some fn)(hp:fn.full=false)(h:Wf T f (args.map (eS (fun _=>none) s.H 40)) [] K0)
  (k:∀ d Hn,K0 d Hn→oA (after s dst args d Hn) K .mk):fr T f args dst s K .mk:=.inl ⟨fn,hf,hp,Wf.mono h k⟩
theorem fr.nj{f:FuncId}{args:List D}{dst:Option Nat}{s:St}{K:St→Prop}{fn:eQ}{K0:D→U→Prop}(hf:T.fn f=some fn)(hp:fn.full=true)(h:Wf T f args s.H K0)
  (k:∀ d H',K0 d H'→K { s with env:=put s.env dst d,H:=H' }):fr T f args dst s K .mk:=.inr ⟨fn,hf,hp,Wf.mono h k⟩
theorem fr.c{f:FuncId}{args:List D}{dst:Option Nat}{s:St}{K:St→Prop}{fn:eQ}{x:D}(hf:T.fn f=some fn)(hp:fn.full=false)(h:Wf T f args [] fun d H'=>d=x∧H' = [])
  (hc:fm args=true) (hx:closed x=true) (k:K { s with env:=put s.env dst x }):fr T f args dst s K .mk:=by
 refine fr.is hf hp (K0:=fun d H'=>d=x∧H' = []) ?_ ?_
 ·have e0:args.map (eS (fun _=>none) s.H 40)=args:=by
   conv=>rhs;rw[← aR args]
   exact aj fun d hd=>mf (jX hc d hd)
  rw[e0];exact h
 ·rintro d Hn ⟨rfl,rfl⟩
  obtain⟨k1,k2⟩:=DR (H:=s.H) hx
  refine⟨{ s with env:=put s.env dst d },?_,k⟩
  unfold after
  rw[if_pos hc,k1,k2]
  simp
theorem fr.r{f:FuncId}{args nH:List D}{dst:Option Nat}{s:St}{K:St→Prop}{fn:eQ}{x:D}(hf:T.fn f=some fn)(hp:fn.full=false)(h:Wf T f nH [] fun d H'=>d=x∧H' = [])
  (hs:args.map (eS (fun _=>none) s.H 40)=nH) (hx:flat x=true) (kj:closed x=true) (k:K { s with env:=put s.env dst x }):fr T f args dst s K .mk:=by
 refine fr.is hf hp (K0:=fun d H'=>d=x∧H' = []) (by rw[hs];exact h) ?_
 rintro d Hn ⟨rfl,rfl⟩
 obtain⟨k1,k2⟩:=DR (H:=s.H) kj
 refine⟨{ s with env:=put s.env dst d },?_,k⟩
 have:mD d=true:=(MU (H:=s.H) hx).1
 unfold after
 rw[this,k1,k2]
 simp
theorem gR.c{f:FuncId}{args:List D}{R:List Fp}{dst:Option Nat}{s:St}{Q:Rc→St→Prop}{fn:eQ}{x:D}(hf:T.fn f=some fn)(hp:fn.full=false)(h:Wf T f args [] fun d H'=>d=x∧H' = [])
  (hc:fm args=true) (hx:closed x=true) (k:Q ⟨R,[]⟩ { s with env:=put s.env dst x }):gR T f args R dst s Q .mk:=by
 refine⟨fn,x,hf,hp,?_,by rw[if_pos hc];exact hx,k⟩
 have e0:args.map (eS (fun _=>none) s.H 40)=args:=by
  conv=>rhs;rw[← aR args]
  exact aj fun d hd=>mf (jX hc d hd)
 rw[e0];exact h
theorem gR.r{f:FuncId}{args nH:List D}{R:List Fp}{dst:Option Nat}{s:St}{Q:Rc→St→Prop}{fn:eQ}{x:D}(hf:T.fn f=some fn)(hp:fn.full=false)(h:Wf T f nH [] fun d H'=>d=x∧H' = [])
  (hs:args.map (eS (fun _=>none) s.H 40)=nH) (hx:flat x=true) (kj:closed x=true) (k:Q ⟨R,[]⟩ { s with env:=put s.env dst x }):gR T f args R dst s Q .mk:=
 ⟨fn,x,hf,hp,by rw[hs];exact h,by split<;>assumption,k⟩
variable{s:St}{K:gv}{a b:IR}{l:List fo}{op:gp}{k j:Nat}
@[simp ↓] theorem adH:XC T .skip s K=K (.norm s):=(rfl)
@[simp ↓] theorem adD:XC T (.ops l) s K=XO T l s fun s'=>K (.norm s'):=(rfl)
@[simp ↓] theorem adx{ic:List (Nat×Nat)}:XC T (.draw ic l) s K=XT T l s fun rs s'=>qz ic rs=true∧K (.norm s'):=(rfl)
@[simp ↓] theorem ady{ic:List (Nat×Nat)}{es:List fo}:XC T (.kh ic l es) s K=XT T l s fun rs s'=>qz ic rs=true∧XO T es s' fun s'=>K (.norm s'):=(rfl)
@[simp ↓] theorem adG:XC T (.seq a b) s K=XC T a s (FR T b K):=(rfl)
@[simp ↓] theorem adw{c:X}:XC T (.cond c a b) s K=XB (ev s.env.get c) (XC T a s K) (XC T b s K) .mk:=(rfl)
@[simp ↓] theorem adv{id:Nat}{live:List Nat}:XC T (.block id live a) s K=XC T a s (rS id s.H.length live K):=(rfl)
@[simp ↓] theorem adC{live:List Nat}:XC T (.loop live a) s K=eW T live a s K .mk:=(rfl)
@[simp ↓] theorem adE{rf:Nat}{live:List Nat}{x:X}:XC T (.kF rf live x) s K=p6 T rf live x s K .mk:=(rfl)
@[simp ↓] theorem adA{S:List Nat}:XC T (.fz S a) s K=(rr s.marks (mK s.env S)=true∧XC T a (jF (mK s.env S) s) K):=(rfl)
@[simp ↓] theorem adB{S:List Nat}{x y:List fo}:XC T (.qf S x y) s K=XO T x s fun s'=>rr s'.marks (mK s'.env S)=true∧XO T y (jF (mK s'.env S) s') fun s'=>K (.norm s'):=(rfl)
@[simp ↓] theorem adz{id:Nat}:XC T (.exit id) s K=K (.exit id s):=(rfl)
@[simp ↓] theorem adF:XC T .ret s K=K (.ret s):=(rfl)
@[simp ↓] theorem ajL:FR T b K (.norm s)=XC T b s K:=(rfl)
@[simp ↓] theorem ajK{id:Nat}:FR T b K (.exit id s)=K (.exit id s):=(rfl)
@[simp ↓] theorem ajM:FR T b K (.ret s)=K (.ret s):=(rfl)
@[simp ↓] theorem LM{id n:Nat}{live:List Nat}:rS id n live K (.norm s)=K (.norm (cut n live s)):=(rfl)
@[simp ↓] theorem afV{id n:Nat}{live:List Nat}:rS id n live K (.ret s)=K (.ret s):=(rfl)
@[simp ↓] theorem LN{id n:Nat}{live:List Nat}:rS id n live K (.exit id s)=K (.norm (cut n live s)):=by simp[rS,kJ]
@[simp ↓] theorem afU{id tW n:Nat}{live:List Nat}(h:tW≠id):rS id n live K (.exit tW s)=K (.exit tW s):=by simp[rS,kJ,h]
@[simp ↓] theorem ahG{rs:List qO}{own n:Nat}{K:D→U→Prop}:tz rs own n K (.ret s)=oA (kill s.marks s.H) (fun H=>oA (pV { s with H:=H } rs) (fun ds=>K (leave own n H (pU ds)).1 (leave own n H (pU ds)).2) .mk) .mk:=(rfl)
@[simp ↓] theorem ahF{rs:List qO}{own n:Nat}{K:D→U→Prop}:tz rs own n K (.norm s)=oA (kill s.marks s.H) (fun H=>oA (pV { s with H:=H } rs) (fun ds=>K (leave own n H (pU ds)).1 (leave own n H (pU ds)).2) .mk) .mk:=(rfl)
@[simp ↓] theorem adO{K:St→Prop}:XO T [] s K=K s:=(rfl)
@[simp ↓] theorem adP{K:St→Prop}:XO T (o k op::l) s K=gF T op (some k) s fun s'=>XO T l s' K:=by
 simp[XO,guardOf]
@[simp ↓] theorem adR{K:St→Prop}:XO T (u op::l) s K=gF T op none s fun s'=>XO T l s' K:=by
 simp[XO,guardOf]
@[simp ↓] theorem adQ{g:Bool}{K:St→Prop}:XO T (og j g k op::l) s K=XG (guardOf s.env.get (some (j,g))) (gF T op (some k) s fun s'=>XO T l s' K) (XO T l { s with env:=(k,.val undef)::s.env } K) .mk:=(rfl)
@[simp ↓] theorem adS{g:Bool}{K:St→Prop}:XO T (ug j g op::l) s K=XG (guardOf s.env.get (some (j,g))) (gF T op none s fun s'=>XO T l s' K) (XO T l s K) .mk:=(rfl)
@[simp ↓] theorem aeD{Q:List Rc→St→Prop}:XT T [] s Q=Q [] s:=(rfl)
@[simp ↓] theorem aeE{Q:List Rc→St→Prop}:XT T (o k op::l) s Q=iy T op (some k) s fun rc s'=>XT T l s' fun rs s2=>Q (rc::rs) s2:=by
 simp[XT,guardOf]
@[simp ↓] theorem aeG{Q:List Rc→St→Prop}:XT T (u op::l) s Q=iy T op none s fun rc s'=>XT T l s' fun rs s2=>Q (rc::rs) s2:=by
 simp[XT,guardOf]
@[simp ↓] theorem aeF{g:Bool}{Q:List Rc→St→Prop}:XT T (og j g k op::l) s Q=XG (guardOf s.env.get (some (j,g))) (iy T op (some k) s fun rc s'=>XT T l s' fun rs s2=>Q (rc::rs) s2) (XT T l { s with env:=(k,.val undef)::s.env } fun rs s2=>Q (⟨[],[]⟩::rs) s2) .mk:=(rfl)
@[simp ↓] theorem aeH{g:Bool}{Q:List Rc→St→Prop}:XT T (ug j g op::l) s Q=XG (guardOf s.env.get (some (j,g))) (iy T op none s fun rc s'=>XT T l s' fun rs s2=>Q (rc::rs) s2) (XT T l s fun rs s2=>Q (⟨[],[]⟩::rs) s2) .mk:=(rfl)
@[simp ↓] theorem aiU{dst:Option Nat}{K:St→Prop}{d:D}{δ:Dl}:kp s dst K (d,δ)=K { s with env:=put s.env dst d,H:=δ.app s.H (Al.last s.H) }:=(rfl)
@[simp ↓] theorem aiV{dst:Option Nat}{R:List Fp}{Q:Rc→St→Prop}{d:D}{δ:Dl}:kt s dst R Q (d,δ)=Q ⟨R,im s.H.length δ⟩ { s with env:=put s.env dst d,H:=δ.app s.H (Al.last s.H) }:=(rfl)
section
variable{dst:Option Nat}{K:St→Prop}{Q:Rc→St→Prop}
@[simp ↓] theorem aeq{x:X}:gF T (.mv x) dst s K=oA (ft s.env.get s.H s.H.length (.mv x)) (kp s dst K) .mk:=(rfl)
@[simp ↓] theorem afb{x:X}:iy T (.mv x) dst s Q=oA (ft s.env.get s.H s.H.length (.mv x)) (kt s dst (fu s.env.get s.H (.mv x)) Q) .mk:=(rfl)
@[simp ↓] theorem aev{c a b:X}:gF T (.pick c a b) dst s K=oA (ft s.env.get s.H s.H.length (.pick c a b)) (kp s dst K) .mk:=(rfl)
@[simp ↓] theorem afd{c a b:X}:iy T (.pick c a b) dst s Q=oA (ft s.env.get s.H s.H.length (.pick c a b)) (kt s dst (fu s.env.get s.H (.pick c a b)) Q) .mk:=(rfl)
@[simp ↓] theorem adY{t:TypeId}{x:X}:gF T (.box t x) dst s K=oA (ft s.env.get s.H s.H.length (.box t x)) (kp s dst K) .mk:=(rfl)
@[simp ↓] theorem aeM{t:TypeId}{x:X}:iy T (.box t x) dst s Q=oA (ft s.env.get s.H s.H.length (.box t x)) (kt s dst (fu s.env.get s.H (.box t x)) Q) .mk:=(rfl)
@[simp ↓] theorem adT{t:TypeId}{z:List D}:gF T (.alloc t z) dst s K=oA (ft s.env.get s.H s.H.length (.alloc t z)) (kp s dst K) .mk:=(rfl)
@[simp ↓] theorem aeI{t:TypeId}{z:List D}:iy T (.alloc t z) dst s Q=oA (ft s.env.get s.H s.H.length (.alloc t z)) (kt s dst (fu s.env.get s.H (.alloc t z)) Q) .mk:=(rfl)
@[simp ↓] theorem adZ{z:List D}{ps:List (Nat×Nat×X)}:gF T (.build z ps) dst s K=oA (ft s.env.get s.H s.H.length (.build z ps)) (kp s dst K) .mk:=(rfl)
@[simp ↓] theorem aeN{z:List D}{ps:List (Nat×Nat×X)}:iy T (.build z ps) dst s Q=oA (ft s.env.get s.H s.H.length (.build z ps)) (kt s dst (fu s.env.get s.H (.build z ps)) Q) .mk:=(rfl)
@[simp ↓] theorem ad0{t sz:Nat}{z:List D}{n:Nat}{ps:List (Nat×X)}:gF T (.buildSl t sz z n ps) dst s K=oA (ft s.env.get s.H s.H.length (.buildSl t sz z n ps)) (kp s dst K) .mk:=(rfl)
@[simp ↓] theorem aeO{t sz:Nat}{z:List D}{n:Nat}{ps:List (Nat×X)}:iy T (.buildSl t sz z n ps) dst s Q=oA (ft s.env.get s.H s.H.length (.buildSl t sz z n ps)) (kt s dst (fu s.env.get s.H (.buildSl t sz z n ps)) Q) .mk:=(rfl)
@[simp ↓] theorem aeh{x:X}:gF T (.ld1 x) dst s K=oA (ft s.env.get s.H s.H.length (.ld1 x)) (kp s dst K) .mk:=(rfl)
@[simp ↓] theorem ae2{x:X}:iy T (.ld1 x) dst s Q=oA (ft s.env.get s.H s.H.length (.ld1 x)) (kt s dst (fu s.env.get s.H (.ld1 x)) Q) .mk:=(rfl)
@[simp ↓] theorem aei{n:Nat}{x:X}:gF T (.ldN n x) dst s K=oA (ft s.env.get s.H s.H.length (.ldN n x)) (kp s dst K) .mk:=(rfl)
@[simp ↓] theorem ae3{n:Nat}{x:X}:iy T (.ldN n x) dst s Q=oA (ft s.env.get s.H s.H.length (.ldN n x)) (kt s dst (fu s.env.get s.H (.ldN n x)) Q) .mk:=(rfl)
@[simp ↓] theorem aeA{a x:X}:gF T (.st1 a x) dst s K=oA (ft s.env.get s.H s.H.length (.st1 a x)) (kp s dst K) .mk:=(rfl)
@[simp ↓] theorem afg{a x:X}:iy T (.st1 a x) dst s Q=oA (ft s.env.get s.H s.H.length (.st1 a x)) (kt s dst (fu s.env.get s.H (.st1 a x)) Q) .mk:=(rfl)
@[simp ↓] theorem aeB{n:Nat}{a x:X}:gF T (.stN n a x) dst s K=oA (ft s.env.get s.H s.H.length (.stN n a x)) (kp s dst K) .mk:=(rfl)
@[simp ↓] theorem afh{n:Nat}{a x:X}:iy T (.stN n a x) dst s Q=oA (ft s.env.get s.H s.H.length (.stN n a x)) (kt s dst (fu s.env.get s.H (.stN n a x)) Q) .mk:=(rfl)
@[simp ↓] theorem aeu{x:X}:gF T (.nilck x) dst s K=oA (ft s.env.get s.H s.H.length (.nilck x)) (kp s dst K) .mk:=(rfl)
@[simp ↓] theorem afc{x:X}:iy T (.nilck x) dst s Q=oA (ft s.env.get s.H s.H.length (.nilck x)) (kt s dst (fu s.env.get s.H (.nilck x)) Q) .mk:=(rfl)
@[simp ↓] theorem adW{op:BinOp}{x y:X}:gF T (.arith op x y) dst s K=oA (ft s.env.get s.H s.H.length (.arith op x y)) (kp s dst K) .mk:=(rfl)
@[simp ↓] theorem aeK{op:BinOp}{x y:X}:iy T (.arith op x y) dst s Q=oA (ft s.env.get s.H s.H.length (.arith op x y)) (kt s dst (fu s.env.get s.H (.arith op x y)) Q) .mk:=(rfl)
@[simp ↓] theorem ad9{ie:Bool}{ls:List mi}{neg:Bool}{x y:X}:gF T (.eqS ie ls neg x y) dst s K=oA (ft s.env.get s.H s.H.length (.eqS ie ls neg x y)) (kp s dst K) .mk:=(rfl)
@[simp ↓] theorem aeU{ie:Bool}{ls:List mi}{neg:Bool}{x y:X}:iy T (.eqS ie ls neg x y) dst s Q=oA (ft s.env.get s.H s.H.length (.eqS ie ls neg x y)) (kt s dst (fu s.env.get s.H (.eqS ie ls neg x y)) Q) .mk:=(rfl)
@[simp ↓] theorem aeC{op:UnOp}{x:X}:gF T (.un op x) dst s K=oA (ft s.env.get s.H s.H.length (.un op x)) (kp s dst K) .mk:=(rfl)
@[simp ↓] theorem afi{op:UnOp}{x:X}:iy T (.un op x) dst s Q=oA (ft s.env.get s.H s.H.length (.un op x)) (kt s dst (fu s.env.get s.H (.un op x)) Q) .mk:=(rfl)
@[simp ↓] theorem ad6{k:IntKind}{x:X}:gF T (.conv k x) dst s K=oA (ft s.env.get s.H s.H.length (.conv k x)) (kp s dst K) .mk:=(rfl)
@[simp ↓] theorem aeS{k:IntKind}{x:X}:iy T (.conv k x) dst s Q=oA (ft s.env.get s.H s.H.length (.conv k x)) (kt s dst (fu s.env.get s.H (.conv k x)) Q) .mk:=(rfl)
@[simp ↓] theorem adX{x:X}:gF T (.b2s x) dst s K=oA (ft s.env.get s.H s.H.length (.b2s x)) (kp s dst K) .mk:=(rfl)
@[simp ↓] theorem aeL{x:X}:iy T (.b2s x) dst s Q=oA (ft s.env.get s.H s.H.length (.b2s x)) (kt s dst (fu s.env.get s.H (.b2s x)) Q) .mk:=(rfl)
@[simp ↓] theorem aen{fn:Fn}{first captured:List X}:gF T (.mkfn fn first captured) dst s K=oA (ft s.env.get s.H s.H.length (.mkfn fn first captured)) (kp s dst K) .mk:=(rfl)
@[simp ↓] theorem ae8{fn:Fn}{first captured:List X}:iy T (.mkfn fn first captured) dst s Q=oA (ft s.env.get s.H s.H.length (.mkfn fn first captured)) (kt s dst (fu s.env.get s.H (.mkfn fn first captured)) Q) .mk:=(rfl)
@[simp ↓] theorem aeo{kk:KK}:gF T (.mkmap kk) dst s K=oA (ft s.env.get s.H s.H.length (.mkmap kk)) (kp s dst K) .mk:=(rfl)
@[simp ↓] theorem ae9{kk:KK}:iy T (.mkmap kk) dst s Q=oA (ft s.env.get s.H s.H.length (.mkmap kk)) (kt s dst (fu s.env.get s.H (.mkmap kk)) Q) .mk:=(rfl)
@[simp ↓] theorem aep{t sz bytes:Nat}{z:List D}{l c:X}:gF T (.mksl t sz bytes z l c) dst s K=oA (ft s.env.get s.H s.H.length (.mksl t sz bytes z l c)) (kp s dst K) .mk:=(rfl)
@[simp ↓] theorem afa{t sz bytes:Nat}{z:List D}{l c:X}:iy T (.mksl t sz bytes z l c) dst s Q=oA (ft s.env.get s.H s.H.length (.mksl t sz bytes z l c)) (kt s dst (fu s.env.get s.H (.mksl t sz bytes z l c)) Q) .mk:=(rfl)
@[simp ↓] theorem aey{sz:Nat}{x:X}{lo hi:Option X}:gF T (.slc sz x lo hi) dst s K=oA (ft s.env.get s.H s.H.length (.slc sz x lo hi)) (kp s dst K) .mk:=(rfl)
@[simp ↓] theorem afe{sz:Nat}{x:X}{lo hi:Option X}:iy T (.slc sz x lo hi) dst s Q=oA (ft s.env.get s.H s.H.length (.slc sz x lo hi)) (kt s dst (fu s.env.get s.H (.slc sz x lo hi)) Q) .mk:=(rfl)
@[simp ↓] theorem aez{x:X}{lo hi:Option X}:gF T (.slcS x lo hi) dst s K=oA (ft s.env.get s.H s.H.length (.slcS x lo hi)) (kp s dst K) .mk:=(rfl)
@[simp ↓] theorem aff{x:X}{lo hi:Option X}:iy T (.slcS x lo hi) dst s Q=oA (ft s.env.get s.H s.H.length (.slcS x lo hi)) (kt s dst (fu s.env.get s.H (.slcS x lo hi)) Q) .mk:=(rfl)
@[simp ↓] theorem aec{off:Nat}{x:X}:gF T (.fieldA off x) dst s K=oA (ft s.env.get s.H s.H.length (.fieldA off x)) (kp s dst K) .mk:=(rfl)
@[simp ↓] theorem aeX{off:Nat}{x:X}:iy T (.fieldA off x) dst s Q=oA (ft s.env.get s.H s.H.length (.fieldA off x)) (kt s dst (fu s.env.get s.H (.fieldA off x)) Q) .mk:=(rfl)
@[simp ↓] theorem aeb{off n:Nat}{ie:Bool}{x:X}:gF T (.field off n ie x) dst s K=oA (ft s.env.get s.H s.H.length (.field off n ie x)) (kp s dst K) .mk:=(rfl)
@[simp ↓] theorem aeW{off n:Nat}{ie:Bool}{x:X}:iy T (.field off n ie x) dst s Q=oA (ft s.env.get s.H s.H.length (.field off n ie x)) (kt s dst (fu s.env.get s.H (.field off n ie x)) Q) .mk:=(rfl)
@[simp ↓] theorem aee{sz:Nat}{x i:X}:gF T (.idxA sz x i) dst s K=oA (ft s.env.get s.H s.H.length (.idxA sz x i)) (kp s dst K) .mk:=(rfl)
@[simp ↓] theorem aeZ{sz:Nat}{x i:X}:iy T (.idxA sz x i) dst s Q=oA (ft s.env.get s.H s.H.length (.idxA sz x i)) (kt s dst (fu s.env.get s.H (.idxA sz x i)) Q) .mk:=(rfl)
@[simp ↓] theorem aef{sz n:Nat}{x i:X}:gF T (.idxArr sz n x i) dst s K=oA (ft s.env.get s.H s.H.length (.idxArr sz n x i)) (kp s dst K) .mk:=(rfl)
@[simp ↓] theorem ae0{sz n:Nat}{x i:X}:iy T (.idxArr sz n x i) dst s Q=oA (ft s.env.get s.H s.H.length (.idxArr sz n x i)) (kt s dst (fu s.env.get s.H (.idxArr sz n x i)) Q) .mk:=(rfl)
@[simp ↓] theorem aed{sz n:Nat}{ie:Bool}{x i:X}:gF T (.idx sz n ie x i) dst s K=oA (ft s.env.get s.H s.H.length (.idx sz n ie x i)) (kp s dst K) .mk:=(rfl)
@[simp ↓] theorem aeY{sz n:Nat}{ie:Bool}{x i:X}:iy T (.idx sz n ie x i) dst s Q=oA (ft s.env.get s.H s.H.length (.idx sz n ie x i)) (kt s dst (fu s.env.get s.H (.idx sz n ie x i)) Q) .mk:=(rfl)
@[simp ↓] theorem aeg{x i:X}:gF T (.idxStr x i) dst s K=oA (ft s.env.get s.H s.H.length (.idxStr x i)) (kp s dst K) .mk:=(rfl)
@[simp ↓] theorem ae1{x i:X}:iy T (.idxStr x i) dst s Q=oA (ft s.env.get s.H s.H.length (.idxStr x i)) (kt s dst (fu s.env.get s.H (.idxStr x i)) Q) .mk:=(rfl)
@[simp ↓] theorem aek{kk:KK}{z:D}{ok:Bool}{m k:X}:gF T (.lookup kk z ok m k) dst s K=oA (ft s.env.get s.H s.H.length (.lookup kk z ok m k)) (kp s dst K) .mk:=(rfl)
@[simp ↓] theorem ae5{kk:KK}{z:D}{ok:Bool}{m k:X}:iy T (.lookup kk z ok m k) dst s Q=oA (ft s.env.get s.H s.H.length (.lookup kk z ok m k)) (kt s dst (fu s.env.get s.H (.lookup kk z ok m k)) Q) .mk:=(rfl)
@[simp ↓] theorem ael{kk:KK}{m k v:X}:gF T (.mapUpd kk m k v) dst s K=oA (ft s.env.get s.H s.H.length (.mapUpd kk m k v)) (kp s dst K) .mk:=(rfl)
@[simp ↓] theorem ae6{kk:KK}{m k v:X}:iy T (.mapUpd kk m k v) dst s Q=oA (ft s.env.get s.H s.H.length (.mapUpd kk m k v)) (kt s dst (fu s.env.get s.H (.mapUpd kk m k v)) Q) .mk:=(rfl)
@[simp ↓] theorem aea{x:X}{i:Nat}:gF T (.ext x i) dst s K=oA (ft s.env.get s.H s.H.length (.ext x i)) (kp s dst K) .mk:=(rfl)
@[simp ↓] theorem aeV{x:X}{i:Nat}:iy T (.ext x i) dst s Q=oA (ft s.env.get s.H s.H.length (.ext x i)) (kt s dst (fu s.env.get s.H (.ext x i)) Q) .mk:=(rfl)
@[simp ↓] theorem ad1{f:FuncId}{args:List X}:gF T (.call f args) dst s K=fr T f (args.map (ev s.env.get)) dst s K .mk:=(rfl)
@[simp ↓] theorem aeP{f:FuncId}{args:List X}:iy T (.call f args) dst s Q=gR T f (args.map (ev s.env.get)) (fu s.env.get s.H (.call f args)) dst s Q .mk:=(rfl)
@[simp ↓] theorem ad2{f:FuncId}{args:List X}:gF T (.callN f args) dst s K=fr T f (args.map (ev s.env.get)) dst s K .mk:=(rfl)
@[simp ↓] theorem aeQ{f:FuncId}{args:List X}:iy T (.callN f args) dst s Q=p7 T f (args.map (ev s.env.get)) (fu s.env.get s.H (.callN f args)) dst s Q .mk:=(rfl)
@[simp ↓] theorem ad3{f:X}{args:List X}:gF T (.callv f args) dst s K=qQ T (ev s.env.get f) (args.map (ev s.env.get)) dst s K .mk:=(rfl)
@[simp] theorem adI{k:FuncId}{first cap args:List D}:qQ T (.fn (.func k) first cap) args dst s K .mk=fr T k (first++args++cap) dst s K .mk:=by
 show oA (some (k,first++args++cap)) (fun p=>fr T p.1 p.2 dst s K .mk) .mk=_
 simp only[vP]
@[simp] theorem adJ{v:Nat}{args:List D}:qQ T (.gO v) args dst s K .mk=n5 T v args dst s K .mk:=(rfl)
@[simp ↓] theorem aeR{f:X}{args:List X}:iy T (.callv f args) dst s Q=oA (iM s.env.get (.callv f args)) (fun p=>gR T p.1 p.2 (fu s.env.get s.H (.callv f args)) dst s Q .mk) .mk:=(rfl)
@[simp ↓] theorem adU{t sz bytes:Nat}{x y:X}:gF T (.app t sz bytes x y) dst s K=oA (ft s.env.get s.H s.H.length (.app t sz bytes x y)) (kp s dst K) .mk:=(rfl)
@[simp ↓] theorem aeJ{t sz bytes:Nat}{x y:X}:iy T (.app t sz bytes x y) dst s Q=oA (ft s.env.get s.H s.H.length (.app t sz bytes x y)) (kt s dst (fu s.env.get s.H (.app t sz bytes x y)) Q) .mk:=(rfl)
@[simp ↓] theorem ad7{sz:Nat}{x y:X}:gF T (.copy sz x y) dst s K=oA (ft s.env.get s.H s.H.length (.copy sz x y)) (kp s dst K) .mk:=(rfl)
@[simp ↓] theorem aeT{sz:Nat}{x y:X}:iy T (.copy sz x y) dst s Q=oA (ft s.env.get s.H s.H.length (.copy sz x y)) (kt s dst (fu s.env.get s.H (.copy sz x y)) Q) .mk:=(rfl)
@[simp ↓] theorem aej{k:uF}{x:X}:gF T (.len k x) dst s K=oA (ft s.env.get s.H s.H.length (.len k x)) (kp s dst K) .mk:=(rfl)
@[simp ↓] theorem ae4{k:uF}{x:X}:iy T (.len k x) dst s Q=oA (ft s.env.get s.H s.H.length (.len k x)) (kt s dst (fu s.env.get s.H (.len k x)) Q) .mk:=(rfl)
@[simp ↓] theorem aem{isMax:Bool}{xs:List X}:gF T (.minmax isMax xs) dst s K=oA (ft s.env.get s.H s.H.length (.minmax isMax xs)) (kp s dst K) .mk:=(rfl)
@[simp ↓] theorem ae7{isMax:Bool}{xs:List X}:iy T (.minmax isMax xs) dst s Q=oA (ft s.env.get s.H s.H.length (.minmax isMax xs)) (kt s dst (fu s.env.get s.H (.minmax isMax xs)) Q) .mk:=(rfl)
@[simp ↓] theorem aet{neg:Bool}{x:X}:gF T (.nilS neg x) dst s K=oA (kG s.env.get s.H s.H.length (.nilS neg x)) (kp s dst K) .mk:=(rfl)
@[simp ↓] theorem ad4{x:X}:gF T (.capE x) dst s K=oA (kG s.env.get s.H s.H.length (.capE x)) (kp s dst K) .mk:=(rfl)
@[simp ↓] theorem adV{t sz bytes:Nat}{z:List D}{x n:X}:gF T (.appZ t sz bytes z x n) dst s K=oA (kG s.env.get s.H s.H.length (.appZ t sz bytes z x n)) (kp s dst K) .mk:=(rfl)
@[simp ↓] theorem ad5{sz:Nat}{z:List D}{x:X}:gF T (.clr sz z x) dst s K=oA (kG s.env.get s.H s.H.length (.clr sz z x)) (kp s dst K) .mk:=(rfl)
@[simp ↓] theorem aex{x:X}:gF T (.rangeS x) dst s K=oA (kG s.env.get s.H s.H.length (.rangeS x)) (kp s dst K) .mk:=(rfl)
@[simp ↓] theorem aes{x:X}:gF T (.nextS x) dst s K=oA (kG s.env.get s.H s.H.length (.nextS x)) (kp s dst K) .mk:=(rfl)
@[simp ↓] theorem aew{x:X}:gF T (.rangeM x) dst s K=oA (kG s.env.get s.H s.H.length (.rangeM x)) (kp s dst K) .mk:=(rfl)
@[simp ↓] theorem aer{x:X}:gF T (.nextM x) dst s K=rO (ev s.env.get x) dst s K .mk:=(rfl)
@[simp ↓] theorem ad8{x:X}:gF T (.entry x) dst s K=oA (kG s.env.get s.H s.H.length (.entry x)) (kp s dst K) .mk:=(rfl)
end
end
def sJ(n:Nat)(live keys:List Nat)(J:Env→U→List Nat→Bool→Prop)(K:gv):gv:=fun o=>match o with
 | .norm s=>J (forget keys (cut n live s).env) (cut n live s).H (cut n live s).marks (cut n live s).fL
 | o=>K o
@[simp ↓] theorem OI{n:Nat}{live keys:List Nat}{J:Env→U→List Nat→Bool→Prop}{K:gv}{s:St}:sJ n live keys J K (.norm s)=J (forget keys (cut n live s).env) (cut n live s).H (cut n live s).marks (cut n live s).fL:=(rfl)
@[simp ↓] theorem ajs{n:Nat}{live keys:List Nat}{J:Env→U→List Nat→Bool→Prop}{K:gv}{id:Nat}{s:St}:sJ n live keys J K (.exit id s)=K (.exit id s):=(rfl)
@[simp ↓] theorem ajt{n:Nat}{live keys:List Nat}{J:Env→U→List Nat→Bool→Prop}{K:gv}{s:St}:sJ n live keys J K (.ret s)=K (.ret s):=(rfl)
theorem eW.i{T:gb}{live:List Nat}{a:IR}{s:St}{K:gv}{α:Type}(keys:List Nat)(sv:(keys.all fun k=>live.contains k)=true)(E:α→Env)(Hp:α→U)(P:α→Prop)(μ:α→Nat)(x0:α)
  (h0:P x0) (hE:forget keys s.env=E x0) (hH:s.H=Hp x0)
  (h:∀ x,P x→XC T a { env:=E x,H:=Hp x,marks:=s.marks,fL:=s.fL } (sJ s.H.length live keys (fun e H m r=>∃ x',e=E x'∧H=Hp x'∧m=s.marks∧r=s.fL∧μ x'<μ x∧P x') K)):eW T live a s K .mk:=by
 refine Wc.loop (fun m s'=>∃ x,P x∧m=μ x∧({ s' with env:=forget keys s'.env }:St) = { env:=E x,H:=Hp x,marks:=s.marks,fL:=s.fL }) (μ x0) ⟨x0,h0,rfl,?_⟩ ?_
 ·dsimp only
  rw[S3 sv,hE]
  rw[← hH]
 ·rintro m s' ⟨x,hP,rfl,he⟩
  refine Ev.Ek keys ?_
  rw[he]
  refine(XC.wc (h x hP)).mono fun o ho=>?_
  cases o with
  | norm A5=>
   obtain⟨x',h3,h4,h5,h6,h2,h1⟩:=ho
   refine⟨μ x',h2,x',h1,rfl,?_⟩
   rw[h3]
   generalize cut s.H.length live A5=q at *
   cases q
   simp_all
  | exit=>exact ho
  | ret=>exact ho
theorem eW.j{T:gb}{live:List Nat}{a:IR}{s:St}{K:gv}{α:Type}(x0:α)(E:α→Env)(Hp:α→U)(P:α→Prop)(μ:α→Nat)
  (h0:P x0) (hE:forget ((E x0).map (·.1)) s.env=E x0) (hH:s.H=Hp x0) (sv:(((E x0).map (·.1)).all fun k=>live.contains k)=true)
  (h:∀ x,P x→XC T a { env:=E x,H:=Hp x,marks:=s.marks,fL:=s.fL } (sJ s.H.length live ((E x0).map (·.1)) (fun e H m r=>∃ x',e=E x'∧H=Hp x'∧m=s.marks∧r=s.fL∧μ x'<μ x∧P x') K)):eW T live a s K .mk:=
 eW.i ((E x0).map (·.1)) sv E Hp P μ x0 h0 hE hH h
@[simp] theorem ahk{n:Nat}{live:List Nat}{env:Env}{H:U}{m:List Nat}{r:Bool}(h:H.length≤n):cut n live { env:=env,H:=H,marks:=m,fL:=r } = { env:=forget live env,H:=H,marks:=m,fL:=r }:=DY h
def Is(x:D):D→U→Prop:=fun d Hn=>d=x∧Hn = []
@[simp] theorem adk(x d:D)(H:U):Is x d H=(d=x∧H = []):=rfl
@[simp] theorem akS(x:Bool)(a b:D):vR (.b x) a b=some (cond x a b):=by cases x<;>rfl
@[simp] theorem aj7(c:Bool)(a b d e:D)(P:D→Prop):oA (vR (bif c then a else b) d e) P .mk=X2 c (oA (vR a d e) P .mk) (oA (vR b d e) P .mk) .mk:=by cases c<;>simp
@[simp] theorem Wj{n:Nat}{H:U}{d:D}(h:H.length≤n)(own:Nat):leave own n H d=(d,H):=by
 unfold leave;rw[if_pos h]
section
variable{P:D→Prop}{a b:Int}
@[simp] theorem ajS:oA (iD .add .i64 a b) P .mk=(lx (a+b)∧P (.i (a+b))):=by simp only[iD,if_true];rw[xJ,vP]
@[simp] theorem akc:oA (iD .sub .i64 a b) P .mk=(lx (a-b)∧P (.i (a-b))):=by simp only[iD,if_true];rw[xJ,vP]
@[simp] theorem aj6:oA (iD .mul .i64 a b) P .mk=(lx (a*b)∧P (.i (a*b))):=by simp only[iD,if_true];rw[xJ,vP]
end
def uh(a b:Int):Int:=IntKind.i64.wrap (a.tdiv b)
def e7(a b:Int):Int:=a.tmod b
theorem nZ{n:Int}(h:lx n):IntKind.i64.wrap n=n:=by
 unfold lx at h
 simp only[IntKind.wrap,IntKind.bits,IntKind.signed]
 simp
 omega
theorem xQ{a b:Int}(h0:0≤a)(h1:a≤9223372036854775807)(hb:0<b):uh a b=a / b:=by
 unfold uh
 rw[Int.tdiv_eq_ediv_of_nonneg h0,nZ]
 have h2:0≤a / b:=Int.ediv_nonneg h0 (by omega)
 have h3:a / b≤a:=Int.ediv_le_self b h0
 exact⟨by omega,by omega⟩
theorem jw{a b:Int}(h0:0≤a):e7 a b=a % b:=Int.tmod_eq_emod_of_nonneg h0
section
variable{P:D→Prop}{a b:Int}{t:Tag P}
@[simp] theorem aj8:oA (iD .quo .i64 a b) P t=(b≠0∧P (.i (uh a b))):=by
 cases t
 simp only[iD]
 by_cases h:b=0<;>simp[h,uh]
@[simp] theorem aka:oA (iD .rem .i64 a b) P t=(b≠0∧P (.i (e7 a b))):=by
 cases t
 simp only[iD]
 by_cases h:b=0<;>simp[h,e7]
end
@[simp] theorem aio(n:Int):lx n=(-9223372036854775808≤n∧n≤9223372036854775807):=rfl
def gt{α:Type}[Inhabited α](l:List α)(n:Int):α:=l.getD n.toNat default
theorem eY{α:Type}[Inhabited α]{l:List α}{n:Int}(h0:0≤n)(h:n<l.length):gt l n∈l:=by
 unfold gt
 rw[List.getD_eq_getElem?_getD,List.getElem?_eq_getElem (by omega),aS]
 exact bH _
theorem nL{α:Type}[Inhabited α]{l:List α}{n:Int}(h0:0≤n)(h:n<l.length):gt l n=l[n.toNat]:=by
 unfold gt
 rw[List.getD_eq_getElem?_getD,List.getElem?_eq_getElem (by omega),aS]
theorem tB{α:Type}[Inhabited α]{l:List α}{n:Nat}(h:n<l.length):gt l n=l[n]:=nL (by omega) (by omega)
theorem gx{α:Type}[Inhabited α]{l:List α}{n:Int}(h0:0≤n)(h:n<l.length):l.take (n+1).toNat=l.take n.toNat ++ [gt l n]:=by
 rw[nL h0 h,← List.take_succ_eq_append_getElem (by omega)]
 congr 1;omega
theorem lk{α:Type}[Inhabited α]{l:List α}{n:Int}(h0:0≤n)(h:n<l.length):l.drop n.toNat=gt l n::l.drop (n.toNat+1):=by
 rw[nL h0 h];exact bP (by omega)
theorem rv{α:Type}[Inhabited α]{l:List α}{x:α}:x∈l↔∃ n:Int,0≤n∧n<l.length∧gt l n=x:=by
 constructor
 ·intro h
  obtain⟨i,hi,e⟩:=List.getElem_of_mem h
  exact⟨i,by omega,by omega,by rw[tB hi,e]⟩
 ·rintro⟨n,h0,h1,rfl⟩
  exact eY h0 h1
theorem jg{α:Type}{l:List α}{n:Int}(h:(l.length:Int)≤n):l.take n.toNat=l:=aH (by omega)
section
variable{α:Type}[Inhabited α]{sz:Nat}{f:α→List D}{P:D→Prop}{k:IntKind}
theorem sM{l:List α}{n:Int}:oA (mb sz (.sl sz (l.map f)) (.val (.int k n))) P .mk=((0≤n∧n<l.length)∧P (.eZ (f (gt l n)))):=by
 simp only[mb,List.length_map,true_and,xJ,vP]
 refine propext ⟨fun⟨h,hp⟩=>⟨h,?_⟩,fun⟨h,hp⟩=>⟨h,?_⟩⟩
 ·rw[List.getD_eq_getElem?_getD,ar,List.getElem?_eq_getElem (by omega),aX,aS]at hp
  unfold gt
  rw[List.getD_eq_getElem?_getD,List.getElem?_eq_getElem (by omega),aS]
  exact hp
 ·rw[List.getD_eq_getElem?_getD,ar,List.getElem?_eq_getElem (by omega),aX,aS]
  unfold gt at hp
  rw[List.getD_eq_getElem?_getD,List.getElem?_eq_getElem (by omega),aS]at hp
  exact hp
@[simp] theorem ajW{l:List α}{n:Int}:oA (mb sz (.sl sz (l.map f)) (.val (.int k n))) P .mk=((0≤n∧n<l.length)∧P (.eZ (f (gt l n)))):=sM
@[simp] theorem ajV{l:List Int}{n:Int}:oA (mb 1 (dI l) (.val (.int k n))) P .mk=((0≤n∧n<l.length)∧P (.eZ [.i (gt l n)])):=by unfold dI;rw[sM,qV]
@[simp] theorem aj1{l:List Pos}{n:Int}:oA (mb 5 (fW l) (.val (.int k n))) P .mk=((0≤n∧n<l.length)∧P (.eZ (gt l n).cells)):=sM
@[simp] theorem aj0{l:List eT}{n:Int}:oA (mb 2 (gq l) (.val (.int k n))) P .mk=((0≤n∧n<l.length)∧P (.eZ [.i (gt l n).1,.i (gt l n).2])):=by unfold gq;rw[sM,tw]
@[simp] theorem ajY{l:List α}{n:Int}:oA (mb sz (dN sz f l) (.val (.int k n))) P .mk=((0≤n∧n<l.length)∧P (.eZ (f (gt l n)))):=by
 cases l with
 | nil=>
  simp only[dN,mb,Pa,cI]
  refine propext ⟨fun h=>h.elim,fun⟨h,_⟩=>?_⟩
  have:=h.1;have:=h.2;simp at this;omega
 | cons a l=>exact sM
end
def A6(H:U)(k:Nat)(ρ:Nat→Option Nat)(v g sz off n:Nat):Option Nat→D
 | some v'=>.eN v' g sz off n
 | none=>match rowAt H v g with
  | some (_,cs)=>if (off+n)*sz≤cs.length then .sl sz (chunks sz n ((cs.drop (off*sz)).map (eS ρ H k)))else .any
  | none=>.any
@[simp] theorem Gl(ρ:Nat→Option Nat)(H:U)(k v g sz off n:Nat):eS ρ H (k+1) (.eN v g sz off n)=A6 H k ρ v g sz off n (ρ v):=by
 rw[eS,if_neg (by simp[closed])]
 unfold A6;rfl
@[simp] theorem Qc(H:U)(k:Nat)(ρ:Nat→Option Nat)(v g sz off n v':Nat):A6 H k ρ v g sz off n (some v') = .eN v' g sz off n:=rfl
def A7(H:U)(k:Nat)(ρ:Nat→Option Nat)(v g off:Nat):Option Nat→D
 | some v'=>.ptr v' g off
 | none=>match rowAt H v g with
  | some (_,cs)=>.eZ ((cs.drop off).map (eS ρ H k))
  | none=>.any
@[simp] theorem acm(ρ:Nat→Option Nat)(H:U)(k v g off:Nat):eS ρ H (k+1) (.ptr v g off)=A7 H k ρ v g off (ρ v):=by
 rw[eS,if_neg (by simp[closed])]
 unfold A7;rfl
@[simp] theorem acg(H:U)(k:Nat)(ρ:Nat→Option Nat)(v g off v':Nat):A7 H k ρ v g off (some v') = .ptr v' g off:=rfl
def Gh:Option Nat→D
 | some v'=>.omap v'
 | none=>.any
@[simp] theorem ack(ρ:Nat→Option Nat)(H:U)(k v:Nat):eS ρ H (k+1) (.omap v)=Gh (ρ v):=by
 rw[eS,if_neg (by simp[closed])]
 unfold Gh;rfl
@[simp] theorem acf(v:Nat):Gh (some v) = .omap v:=rfl
@[simp] theorem alz:Gh none = .any:=rfl
@[simp] theorem alJ{ρ:Nat→Option Nat}{H:U}{k:Nat}{d:D}(h:closed d=true):eS ρ H k d=d:=mf h
@[simp] theorem agT(cs:List D):closed (.agg cs)=fm cs:=by simp only[closed]
@[simp] theorem ahd(cs:List D):closed (.tup cs)=fm cs:=by simp only[closed]
@[simp] theorem ag8(cs:List D):closed (.eZ cs)=fm cs:=by simp only[closed]
@[simp] theorem ahe(v:Value):closed (.val v)=true:=by simp only[closed]
@[simp] theorem ag7:closed .emp=true:=by simp only[closed]
@[simp] theorem G8(f:Fn)(a b:List D):closed (.fn f a b)=(fm a&&fm b):=by simp only[closed]
@[simp] theorem ahb(v g sz off n:Nat):closed (.eN v g sz off n)=false:=by simp only[closed]
@[simp] theorem ahc(v g o:Nat):closed (.ptr v g o)=false:=by simp only[closed]
@[simp] theorem ahf(v:Nat):closed (.gO v)=false:=by simp only[closed]
theorem uc{ρ:Nat→Option Nat}{H:U}{k:Nat}{cs:List D}(h:fm cs=true):cs.map (eS ρ H k)=cs:=by
 conv=>rhs;rw[← aR cs]
 exact aj fun d hd=>mf (jX h d hd)
@[simp] theorem aci(ρ:Nat→Option Nat)(H:U)(k:Nat)(cs:List D):eS ρ H (k+1) (.agg cs) = .agg (cs.map (eS ρ H k)):=by
 by_cases h:closed (.agg cs)=true
 ·rw[mf h,uc (by simpa using h)]
 ·rw[eS,if_neg h]
@[simp] theorem acn(ρ:Nat→Option Nat)(H:U)(k:Nat)(cs:List D):eS ρ H (k+1) (.tup cs) = .tup (cs.map (eS ρ H k)):=by
 by_cases h:closed (.tup cs)=true
 ·rw[mf h,uc (by simpa using h)]
 ·rw[eS,if_neg h]
@[simp] theorem alK(ρ:Nat→Option Nat)(H:U)(k:Nat)(c:Bool)(a b:D):eS ρ H k (bif c then a else b)=bif c then eS ρ H k a else eS ρ H k b:=by cases c<;>rfl
theorem Gk{ρ:Nat→Option Nat}{H:U}{k:Nat}{cs:List D}(h:fm cs=true):cs.map (eS ρ H (k+1))=cs:=by
 conv=>rhs;rw[← aR cs]
 exact aj fun d hd=>mf (jX h d hd)
theorem DN{α:Type}{sz:Nat}{f:α→List D}(hf:∀ a,(f a).length=sz):∀ l:List α,chunks sz l.length (l.map f).flatten=l.map f
 | []=>rfl
 | a::l=>by
  simp only[aJ,chunks,List.map_cons,aQ]
  rw[bI (by rw[hf];exact Nat.le_refl _),aH (by rw[hf];exact Nat.le_refl _),dJ (by rw[hf];exact Nat.le_refl _),bp (by rw[hf];exact Nat.le_refl _),aY,DN hf l]
theorem Wr{α:Type}{sz:Nat}{f:α→List D}(hf:∀ a,(f a).length=sz)(l:List α):(l.map f).flatten.length=l.length*sz:=by
 induction l with
 | nil=>simp
 | cons a l ih=>simp only[List.map_cons,aQ,ay,hf,ih,aJ,bR];omega
theorem L6{a b:List D}:fm (a++b)=(fm a&&fm b):=by
 induction a with
 | nil=>rfl
 | cons d a ih=>simp only[cF,fm,ih,Bool.and_assoc]
theorem RC{α:Type}{f:α→List D}(hf:∀ a,fm (f a)=true)(l:List α):fm (l.map f).flatten=true:=by
 induction l with
 | nil=>rfl
 | cons a l ih=>simp only[List.map_cons,aQ,L6,hf,ih];rfl
class Fl {α:Type} (f:α→List D) (sz:outParam Nat):Prop where
 len:∀ a,(f a).length=sz
 cl:∀ a,fm (f a)=true
instance:Fl f1 1:=⟨fun _=>by simp,fun _=>by simp[fm]⟩
instance:Fl fB 1:=⟨fun _=>by simp,fun _=>by simp[fm]⟩
instance:Fl fS 2:=⟨fun _=>by simp,fun _=>by simp[fm]⟩
instance:Fl fP 1:=⟨fun _=>by simp,fun _=>by simp[fm]⟩
instance:Fl fI 1:=⟨fun _=>by simp,fun _=>by simp[fm]⟩
instance:Fl Pos.cells 5:=⟨fun _=>rfl,fun _=>by simp⟩
instance:Fl Kind.cells 3:=⟨fun _=>rfl,fun _=>by simp⟩
instance:Fl Clause.cells 4:=⟨fun _=>rfl,fun _=>by simp⟩
section
variable{α:Type}{f:α→List D}{sz:Nat}
@[simp] theorem Rz:cl f [] = []:=by rw[lF];rfl
@[simp] theorem yX(a b:List α):cl f a++cl f b=cl f (a++b):=by simp[lF]
theorem oI(l:List α)(a:α):cl f l++f a=cl f (l ++ [a]):=by simp[lF]
theorem mH(l:List α)(a:α):cl f (a::l)=f a++cl f l:=by simp[lF]
variable [F:Fl f sz]
include F
@[simp] theorem yY(l:List α):(cl f l).length=l.length*sz:=by rw[lF];exact Wr F.len l
theorem rZ:∀ (l:List α) (n:Nat),(cl f l).take (n*sz)=cl f (l.take n)
 | [],n=>by simp
 | a::l,0=>by simp
 | a::l,n+1=>by
  rw[mH,List.take_succ_cons,mH,← rZ l n,bR,List.take_append,F.len,aH (by rw[F.len];omega)]
  congr 2;omega
theorem rY:∀ (l:List α) (n:Nat),(cl f l).drop (n*sz)=cl f (l.drop n)
 | [],n=>by simp
 | a::l,0=>by simp
 | a::l,n+1=>by
  rw[mH,List.drop_succ_cons,← rY l n,bR,List.drop_append,F.len,bp (by rw[F.len];omega),aY]
  congr 1;omega
@[simp] theorem agP(l:List α):(cl f l).take (l.length*sz)=cl f l:=by rw[rZ,dy]
@[simp] theorem qb(l:List α):fm (cl f l)=true:=by rw[lF];exact RC F.cl l
@[simp] theorem agN{ρ:Nat→Option Nat}{H:U}(l:List α):(cl f l).map (eS ρ H 40)=cl f l:=Gk (qb l)
@[simp] theorem G9{k:Nat}(l:List α):closed (.sl k (l.map f))=true:=by
 simp only[closed];exact wM F.cl l
theorem L4(l:List α)(n j:Nat)(hj:j<sz):(cl f l)[n*sz+j]? = (l[n]?).bind fun a=>(f a)[j]? := by
 have h:(cl f l)[n*sz+j]? = ((cl f l).drop (n*sz))[j]? := by rw[aB]
 rw[h,rY]
 by_cases hn:n<l.length
 ·rw[bP hn,mH,ag (by rw[F.len];exact hj),List.getElem?_eq_getElem hn];rfl
 ·have h2:l[n]? = none:=aG (Nat.le_of_not_lt hn)
  rw[bp (Nat.le_of_not_lt hn),h2];simp
theorem RA(l:List α)(n:Nat)(a:α)(h:n<l.length):(cl f l).take (n*sz)++f a++(cl f l).drop (n*sz+sz)=cl f (l.take n++a::l.drop (n+1)):=by
 rw[rZ,← bR,rY,← yX,mH,bt]
end
@[simp] theorem agz(l:List Int)(n:Nat):(cl f1 l).take n=cl f1 (l.take n):=by simpa using rZ (f:=f1) l n
@[simp] theorem agx(l:List Int)(n:Nat):(cl f1 l).drop n=cl f1 (l.drop n):=by simpa using rY (f:=f1) l n
@[simp] theorem agy(l:List Int)(n:Int):cl f1 l ++ [.i n]=cl f1 (l ++ [n]):=by rw[← oI,qV]
@[simp] theorem agD(l:List (List Int))(x:List Int):cl fI l ++ [dI x]=cl fI (l ++ [x]):=by rw[← oI,SK]
@[simp] theorem agG(l:List (List eT))(x:List eT):cl fP l ++ [gq x]=cl fP (l ++ [x]):=by rw[← oI,SL]
@[simp] theorem agI(l:List eT)(a b:Int):cl fS l ++ [.i a,.i b]=cl fS (l ++ [(a,b)]):=by rw[← oI,tw]
@[simp] theorem agH(l:List Pos)(a b c:List Int)(r q:Int):cl Pos.cells l ++ [dI a,dI b,dI c,.i r,.i q]=cl Pos.cells (l ++ [⟨a,b,c,r,q⟩]):=by rw[← oI];rfl
@[simp] theorem akT(p:Pos):Pos.mk p.cs p.h0 p.h1 p.fg p.side=p:=rfl
@[simp] theorem ajT{l:List Int}{n:Int}{P:D→Prop}:oA (cl f1 l)[n.toNat]? P .mk=(n.toNat<l.length∧P (.i (gt l n))):=by
 have h:=L4 (f:=f1) l n.toNat 0 (by omega)
 simp only[Nat.mul_one,bQ]at h
 rw[h]
 by_cases hn:n.toNat<l.length
 ·rw[List.getElem?_eq_getElem hn]
  have e:gt l n=l[n.toNat]:=by unfold gt;rw[List.getD_eq_getElem?_getD,List.getElem?_eq_getElem hn];rfl
  simp[hn,e]
 ·rw[aG (by omega)];simp[hn]
@[simp] theorem Xd{α:Type}[Inhabited α]{f:α→List D}{sz:Nat}[F:Fl f sz]{l:List α}{t:TypeId}{n:Int}{P:D→Prop}(hz:0<sz):oA (tY sz (n.toNat*sz) (some (t,cl f l))) P .mk=(n.toNat<l.length∧P (.agg (f (gt l n)))):=by
 simp only[tY,yY,← bR]
 rw[xJ,vP]
 have h:n.toNat.succ*sz≤l.length*sz↔n.toNat<l.length:=ei hz
 rw[h]
 refine propext ⟨fun⟨a,p⟩=>⟨a,?_⟩,fun⟨a,p⟩=>⟨a,?_⟩⟩
 ·have e:gt l n=l[n.toNat]:=by unfold gt;rw[List.getD_eq_getElem?_getD,List.getElem?_eq_getElem a];rfl
  rw[rY,bP a,mH,bI (by rw[F.len];exact Nat.le_refl _),aH (by rw[F.len];exact Nat.le_refl _),← e]at p
  exact p
 ·have e:gt l n=l[n.toNat]:=by unfold gt;rw[List.getD_eq_getElem?_getD,List.getElem?_eq_getElem a];rfl
  rw[rY,bP a,mH,bI (by rw[F.len];exact Nat.le_refl _),aH (by rw[F.len];exact Nat.le_refl _),← e]
  exact p
def lI(ρ:Nat→Option Nat)(H:U)(k sz off n:Nat):Option (TypeId×List D)→D
 | some (_,cs)=>if (off+n)*sz≤cs.length then .sl sz (chunks sz n ((cs.drop (off*sz)).map (eS ρ H k)))else .any
 | none=>.any
@[simp] theorem Qb(H:U)(k:Nat)(ρ:Nat→Option Nat)(v g sz off n:Nat):A6 H k ρ v g sz off n none=lI ρ H k sz off n (rowAt H v g):=by
 unfold A6 lI;rfl
@[simp] theorem qW{α:Type}{f:α→List D}{sz:Nat}[F:Fl f sz]{ρ:Nat→Option Nat}{H:U}{k n:Nat}{t:TypeId}{l:List α}(h:n=l.length):lI ρ H (k+1) sz 0 n (some (t,cl f l)) = .sl sz (l.map f):=by
 subst h
 unfold lI
 dsimp only
 rw[yY,if_pos (by simp),cc,dM,Gk (qb l),lF,DN F.len]
@[simp] theorem ahU{ρ:Nat→Option Nat}{H:U}{k sz:Nat}{p:TypeId×List D}:lI ρ H k sz 0 0 (some p) = .sl sz []:=by
 unfold lI;simp[chunks]
@[simp] theorem ahW{ρ:Nat→Option Nat}{H:U}{k:Nat}{t:TypeId}{n:Int}:lI ρ H (k+1) 1 0 1 (some (t,[.i n]))=dI [n]:=by
 have:=qW (f:=f1) (ρ:=ρ) (H:=H) (k:=k) (t:=t) (l:=[n]) (n:=1) rfl
 rw[lF]at this
 simp only[List.map_cons,List.map_nil,qV,aQ,cG,aw]at this
 rw[this];unfold dI;simp only[List.map_cons,List.map_nil,qV]
@[simp] theorem ahY{ρ:Nat→Option Nat}{H:U}{k:Nat}{t:TypeId}{a b c:List Int}{r q:Int}:lI ρ H (k+1) 5 0 1 (some (t,[dI a,dI b,dI c,.i r,.i q]))=fW [⟨a,b,c,r,q⟩]:=by
 have h:=qW (f:=Pos.cells) (ρ:=ρ) (H:=H) (k:=k) (t:=t) (l:=[⟨a,b,c,r,q⟩]) (n:=1) rfl
 rw[lF]at h
 unfold fW;exact h
@[simp] theorem al6(l:List Int):D.sl 1 (l.map f1)=dI l:=by unfold dI;rfl
@[simp] theorem al8(l:List Pos):D.sl 5 (l.map Pos.cells)=fW l:=by unfold fW;rfl
@[simp] theorem acq(l:List eT):D.sl 2 (l.map fS)=gq l:=by unfold gq;rfl
def pz(ρ:Nat→Option Nat)(H:U):Option Ob→Ob
 | some o=>lz ρ H o
 | none=>.dead
@[simp] theorem alI(ρ:Nat→Option Nat)(H:U)(t g:Nat)(cs:List D):pz ρ H (some (.row t g cs)) = .row t g (cs.map (eS ρ H 40)):=rfl
@[simp] theorem alF(ρ:Nat→Option Nat)(H:U)(kk:KK)(es:List (Value×D)):pz ρ H (some (.map kk es)) = .map kk (es.map fun x=>(x.1,eS ρ H 40 x.2)):=rfl
@[simp] theorem alD(ρ:Nat→Option Nat)(H:U):pz ρ H (some .dead) = .dead:=rfl
@[simp] theorem alE(ρ:Nat→Option Nat)(H:U):pz ρ H (some .jL) = .jL:=rfl
@[simp] theorem alH(ρ:Nat→Option Nat)(H:U)(rf:Nat)(e:Env)(st:oZ):pz ρ H (some (.fZ rf e st)) = .fZ rf (e.map fun x=>(x.1,eS ρ H 40 x.2)) st:=rfl
def DX(env:Env)(H:U)(m:List Nat)(r:Bool)(ks:kf):St:={ env:=env.map fun p=>(p.1,eS (fM ks) H 40 p.2),H:=ks.map fun p=>if p.2 then pz (fM ks) H H[p.1]? else .dead,marks:=m.map fun v=>(fM ks v).getD v,fL:=r }
def AU(n:Nat)(env:Env)(H:U)(m:List Nat):List Nat:=dedup (((env.map fun p=>gE n p.2).flatten++((H.take n).map (mc n)).flatten++m.filter (n≤·)).filter (· < H.length))
@[simp low] theorem Hi{n:Nat}{live:List Nat}{env:Env}{H:U}{m:List Nat}{r:Bool}(h:¬ H.length≤n):cut n live { env:=env,H:=H,marks:=m,fL:=r }=DX (forget live env) H m r (gh n (AU n (forget live env) H m)):=by
 unfold cut DX AU
 dsimp only
 rw[if_neg h]
 rfl
@[simp] theorem ais(K:List Nat):gh 0 K=K.map fun v=>(v,true):=rfl
@[simp] theorem ait(K:List Nat):gh 1 K=(0,true)::K.map fun v=>(v,true):=rfl
@[simp] theorem aiE(K:List Nat):gh 2 K=(0,true)::(1,true)::K.map fun v=>(v,true):=rfl
@[simp] theorem aiJ(K:List Nat):gh 3 K=(0,true)::(1,true)::(2,true)::K.map fun v=>(v,true):=rfl
@[simp] theorem aiK(K:List Nat):gh 4 K=(0,true)::(1,true)::(2,true)::(3,true)::K.map fun v=>(v,true):=rfl
def uk(i:Nat):kf→Nat→Option Nat
 | [],_=>none
 | p::r,v=>if p.2&&p.1 == v then some i else uk (i+1) r v
theorem abT(ks:kf)(v:Nat):fM ks v=uk 0 ks v:=by
 have key:∀ (ks:kf) (i:Nat),uk i ks v=(ks.findIdx? (fun p=>p.2&&p.1 == v)).map (· + i):=by
  intro ks
  induction ks with
  | nil=>intro i;rfl
  | cons p r ih=>
   intro i
   rw[List.findIdx?_cons]
   unfold uk
   split
   ·simp
   ·rw[ih,Option.map_map]
    congr 1;funext x;simp;omega
 rw[key];simp[fM]
@[simp] theorem alo(v:Nat):fM [] v=none:=rfl
@[simp] theorem aln(p:Nat×Bool)(r:kf)(v:Nat):fM (p::r) v=if (p.2&&p.1 == v)=true then some 0 else uk 1 r v:=by
 rw[abT];rfl
@[simp] theorem alm(i v:Nat):uk i [] v=none:=rfl
@[simp] theorem alk(i:Nat)(p:Nat×Bool)(r:kf)(v:Nat):uk i (p::r) v=if (p.2&&p.1 == v)=true then some i else uk (i+1) r v:=rfl
@[simp] theorem ahj(env:Env)(H:U)(m:List Nat)(r:Bool)(ks:kf):DX env H m r ks = { env:=env.map fun p=>(p.1,eS (fM ks) H 40 p.2),H:=ks.map fun p=>if p.2 then pz (fM ks) H H[p.1]? else .dead,marks:=m.map fun v=>(fM ks v).getD v,fL:=r }:=rfl
@[simp] theorem ak3(n:Nat)(env:Env)(H:U)(m:List Nat):AU n env H m=dedup (((env.map fun p=>gE n p.2).flatten++((H.take n).map (mc n)).flatten++m.filter (n≤·)).filter (· < H.length)):=rfl
@[simp] theorem ahm:dedup [] = []:=rfl
@[simp] theorem ahl(x:Nat)(r:List Nat):dedup (x::r)=if x∈r then dedup r else x::dedup r:=rfl
theorem Be(n:Nat){d:D}(h:closed d=true):gE n d = []:=by
 cases d<;>first|rfl|cases h
@[simp] theorem amw(n:Nat)(l:List Int):gE n (dI l) = []:=rfl
@[simp] theorem amB(n:Nat)(l:List Pos):gE n (fW l) = []:=rfl
@[simp] theorem amz(n:Nat)(p:Pos):gE n (dP p) = []:=rfl
@[simp] theorem amA(n:Nat)(l:List eT):gE n (gq l) = []:=rfl
@[simp] theorem amv(n:Nat)(g:eO):gE n (dG g) = []:=rfl
@[simp] theorem amu(n:Nat)(g:eO):gE n g.gV = []:=rfl
@[simp] theorem amx{α:Type}(n sz:Nat)(f:α→List D)(l:List α):gE n (dN sz f l) = []:=by cases l<;>rfl
@[simp] theorem amM(n:Nat)(v:Value):gE n (.val v) = []:=rfl
@[simp] theorem amt(n:Nat):gE n .any = []:=rfl
@[simp] theorem amE(n:Nat):gE n .emp = []:=rfl
@[simp] theorem ams(n:Nat)(cs:List D):gE n (.agg cs) = []:=rfl
@[simp] theorem amL(n:Nat)(cs:List D):gE n (.tup cs) = []:=rfl
@[simp] theorem amH(n:Nat)(cs:List D):gE n (.eZ cs) = []:=rfl
@[simp] theorem amK(n sz:Nat)(es:List (List D)):gE n (.sl sz es) = []:=rfl
@[simp] theorem amG(n:Nat)(f:Fn)(a b:List D):gE n (.fn f a b) = []:=rfl
@[simp] theorem Qy(n v g sz off len:Nat):gE n (.eN v g sz off len)=if n≤v then [v]else []:=rfl
@[simp] theorem amJ(n v g off:Nat):gE n (.ptr v g off)=if n≤v then [v]else []:=rfl
@[simp] theorem amI(n v:Nat):gE n (.omap v)=if n≤v then [v]else []:=rfl
@[simp] theorem amN(n v:Nat):gE n (.gO v)=if n≤v then [v]else []:=rfl
theorem abL(n:Nat){cs:List D}(h:fm cs=true):(cs.map (gE n)).flatten = []:=by
 induction cs with
 | nil=>rfl
 | cons d r ih=>
  simp only[fm,ah]at h
  simp[Be n h.1,ih h.2]
@[simp] theorem agM(n:Nat){α:Type}{f:α→List D}{sz:Nat}[F:Fl f sz](l:List α):((cl f l).map (gE n)).flatten = []:=abL n (qb l)
@[simp] theorem Xe(n t g:Nat)(cs:List D):mc n (.row t g cs)=(cs.map (gE n)).flatten:=rfl
@[simp] theorem akf(n:Nat)(kk:KK)(es:List (Value×D)):mc n (.map kk es)=(es.map fun x=>gE n x.2).flatten:=rfl
@[simp] theorem akd(n:Nat):mc n .dead = []:=rfl
theorem Wk{H:U}{d:D}(h:H≠[]):leave 0 0 H d=(eS (fun _=>none) H 40 d,[]):=by
 unfold leave
 rw[if_neg (by cases H with|nil=>exact absurd rfl h|cons a l=>simp)]
 rfl
@[simp] theorem ai6{o:Ob}{r:U}{d:D}:leave 0 0 (o::r) d=(eS (fun _=>none) (o::r) 40 d,[]):=Wk (by simp)
attribute [simp] and_assoc Kind.cells Clause.cells dP Pos.cells dG eO.cells eO.gV
def iR(T:gb)(n:Nat)(live:List Nat)(a:IR)(s:St)(K:gv)(_:Tag (live,a,s,K)):Prop:=Ev T (.loop n live (jq a) s) (PO K)
def FB(T:gb)(n:Nat)(live:List Nat)(a:IR)(K:gv):gv:=fun o=>match o with
 | .norm s=>iR T n live a (cut n live s) K .mk
 | o=>K o
def PX(T:gb)(v rf:Nat)(b:IR)(dst:Option Nat)(s:St)(K:St→Prop):gv:=fun o=>match o with
 | .norm s1=>∃ jj,s1.H[v]? = some (.fZ rf jj .ready)∧XC T b { s1 with H:=s1.H.set v (.fZ rf jj .busy) } (vV v rf dst s K)
 | _=>False
theorem n5.r{T:gb}{v rf:Nat}{args:List D}{dst:Option Nat}{s:St}{K:St→Prop}{env0:Env}{Rd:mW}(hv:s.H[v]? = some (.fZ rf env0 .ready))(hR:T.round rf=some Rd)(hl:args.length=Rd.params.length)
  (ca cb:IR) (ha:jq ca=Rd.a) (hb:jq cb=Rd.b)
  (h:XC T ca { env:=px Rd.params args env0,H:=s.H,fL:=true } (PX T v rf cb dst s K)):n5 T v args dst s K .mk:=by
 refine⟨rf,env0,Rd,hv,hR,hl,?_⟩
 rw[← ha]
 refine(XC.wc h).mono fun o ho=>?_
 cases o with
 | norm s1=>
  obtain⟨jj,h1,h2⟩:=ho
  exact⟨s1,jj,rfl,h1,by rw[← hb];exact XC.wc h2⟩
 | exit=>exact ho.elim
 | ret=>exact ho.elim
def abW(rf:Nat)(s:St)(K:gv):D→U→Prop:=fun _ H'=>∃ env st,H'[s.H.length+1]? = some (.fZ rf env st)∧oA (vT { s with H:=H'.set (s.H.length+1) .dead,marks:=s.H.length::s.marks } st) K .mk
theorem p6.r{T:gb}{rf:Nat}{live:List Nat}{x:X}{s:St}{K:gv}{f:FuncId}{first cap:List D}{fn:eQ}(hr:s.fL=false)(hx:ev s.env.get x = .fn (.func f) first cap)(hf:T.fn f=some fn)(hp:fn.full=true)
  (h:Wf T f (first ++ [.gO (s.H.length+1)]++cap) (s.H ++ [.jL,.fZ rf (forget live s.env) .ready]) (abW rf s K)):p6 T rf live x s K .mk:=
 Ev.kF hr hx hf hp h fun d H' ⟨d',H2,he,env,st,h1,o,h2,h3⟩=>by
  cases he
  exact⟨env,st,o,h1,h2,o,rfl,h3⟩
section
variable{T:gb}{n:Nat}{live:List Nat}{a:IR}{s:St}{K:gv}{id:Nat}
theorem eW.un(h:iR T s.H.length live a { s with env:=forget live s.env } K .mk):eW T live a s K .mk:=Ev.loop h
theorem iR.u(h:XC T a s (FB T n live a K)):iR T n live a s K .mk:=by
 refine Ev.tZ (XC.wc h) (fun A5 ⟨o,e,k⟩=>?_) fun o ⟨o',e,k⟩ hs=>?_
 ·cases e;exact k
 ·cases e
  cases o with
  | norm=>cases hs
  | exit=>exact⟨_,rfl,k⟩
  | ret=>exact⟨_,rfl,k⟩
@[simp ↓] theorem ajv:FB T n live a K (.norm s)=iR T n live a (cut n live s) K .mk:=(rfl)
@[simp ↓] theorem aju:FB T n live a K (.exit id s)=K (.exit id s):=(rfl)
@[simp ↓] theorem ajw:FB T n live a K (.ret s)=K (.ret s):=(rfl)
end
theorem Xk{x b:Bool}{P Q:Prop}(k:cond b P Q)(h:x=b:=by first|(show _=true;first|assumption|exact decide_eq_true (by assumption))|(show _=false;first|assumption|exact decide_eq_false (by assumption))):X2 x P Q .mk:=by
 subst h;cases x<;>simpa using k
class PB (x:Bool) (I:outParam (Prop→Prop)) (q:outParam Prop):Prop where
 t:∀ {P:Prop},I P→x=true→P
 f:x=false→q
instance(priority:=low){x:Bool}:PB x (fun P=>x=true→P) (x=false):=⟨fun h e=>h e,id⟩
instance{p:Prop}[Decidable p]:PB (decide p) (fun P=>p→P) (¬p):=⟨fun h e=>h (of_decide_eq_true e),of_decide_eq_false⟩
instance{p q:Prop}[Decidable p][Decidable q]:PB (decide p&&decide q) (fun P=>p→q→P) (¬(p∧q)):=⟨fun h e=>by
 rw[← eA]at e
 exact h (of_decide_eq_true e).1 (of_decide_eq_true e).2,fun e=>by rw[← eA]at e;exact of_decide_eq_false e⟩
instance{p q:Prop}[Decidable p][Decidable q]:PB (decide p||decide q) (fun P=>p∨q→P) (¬(p∨q)):=⟨fun h e=>by
 rw[← eD]at e
 exact h (of_decide_eq_true e),fun e=>by rw[← eD]at e;exact of_decide_eq_false e⟩
theorem Xs{x:Bool}{I:Prop→Prop}{q P Q:Prop}[c:PB x I q](h:I P)(k:q→Q):X2 x P Q .mk:=⟨c.t h,fun e=>k (c.f e)⟩
theorem Yc{T:gb}{f:FuncId}{args:List D}{dst:Option Nat}{s:St}{K:St→Prop}{fn:eQ}{x:D}(h:Wf T f args [] fun d H'=>d=x∧H' = [])(k:K { s with env:=put s.env dst x })
  (hf:T.fn f=some fn:=by exact rfl) (hp:fn.full=false:=by exact rfl) (hc:fm args=true:=by simp) (hx:closed x=true:=by simp):fr T f args dst s K .mk:=fr.c hf hp h hc hx k
theorem Yt{T:gb}{f:FuncId}{args:List D}{R:List Fp}{dst:Option Nat}{s:St}{Q:Rc→St→Prop}{fn:eQ}{x:D}(h:Wf T f args [] fun d H'=>d=x∧H' = [])(k:Q ⟨R,[]⟩ { s with env:=put s.env dst x })
  (hf:T.fn f=some fn:=by exact rfl) (hp:fn.full=false:=by exact rfl) (hc:fm args=true:=by simp) (hx:closed x=true:=by simp):gR T f args R dst s Q .mk:=gR.c hf hp h hc hx k
theorem Yr{T:gb}{f:FuncId}{args nH:List D}{dst:Option Nat}{s:St}{K:St→Prop}{fn:eQ}{x:D}(h:Wf T f nH [] fun d H'=>d=x∧H' = [])(k:K { s with env:=put s.env dst x })
  (hf:T.fn f=some fn:=by exact rfl) (hp:fn.full=false:=by exact rfl) (hs:args.map (eS (fun _=>none) s.H 40)=nH:=by simp) (hx:flat x=true:=by simp[flat]) (kj:closed x=true:=by simp):fr T f args dst s K .mk:=fr.r hf hp h hs hx kj k
theorem Yg{T:gb}{f:FuncId}{args:List D}{H:U}(fn:eQ){K:D→U→Prop}(h:XC T fn.body { env:=pj args,H:=H } (tz fn.results fn.own H.length K))
  (hf:T.fn f=some fn:=by exact rfl) (hl:args.length≤fn.ntmps:=by exact dD rfl) (hz:pk fn.body=true:=by exact rfl):Wf T f args H K:=Wf.x hf hl h hz
theorem Yz{T:gb}{f:FuncId}{args:List D}{H:U}(fn:eQ)(c:IR){K:D→U→Prop}(h:XC T c { env:=pj args,H:=H } (tz fn.results fn.own H.length K))
  (hf:T.fn f=some fn:=by exact rfl) (hl:args.length≤fn.ntmps:=by exact dD rfl) (hc:jq c=fn.body:=by simp only[uA,uB];exact mh rfl):Wf T f args H K:=Wf.xz fn.own c hf hl hc h
