/- Part 9 of the proof of skewer.skewerlaw15.TableZero. -/
import Derived.Test.YtnaefnajkaohgaaGreatDoorF08
set_option linter.all false
namespace Go.AL
open Go
universe u
inductive Tag{α:Sort u}(a:α):Type
 | mk
def oA{α:Type}(x:Option α)(P:α→Prop)(_:Tag P):Prop:=∃ a,x=some a∧P a
@[simp] theorem uB{α:Type}(a:α)(P:α→Prop):oA (some a) P .mk=P a:=by simp[oA]
@[simp] theorem MF{α:Type}(P:α→Prop):oA none P .mk=False:=by simp[oA]
@[simp high] theorem v8{α:Type}{c:Prop}[Decidable c](x:Option α)(P:α→Prop):oA (if c then x else none) P .mk=(c∧oA x P .mk):=by
 by_cases h:c<;>simp[h]
@[simp] theorem ahb{α:Type}{c:Prop}[Decidable c](x y:Option α)(P:α→Prop):oA (if c then x else y) P .mk=((c→oA x P .mk)∧(¬c→oA y P .mk)):=by
 by_cases h:c<;>simp[h]
@[simp] theorem ahc(x:Option D)(P:D×Dl→Prop):oA (lift x) P .mk=oA x (fun d=>P (d,.no)) .mk:=by
 cases x<;>simp[lift]
@[simp] theorem ag1{α β:Type}(x:Option α)(f:α→Option β)(P:β→Prop):oA (x.bind f) P .mk=oA x (fun a=>oA (f a) P .mk) .mk:=by
 cases x<;>simp
def gB:D→Bool→Option Bool
 | .val (.bool b),want=>some (b == want)
 | .val (.tuple _),_=>some false
 | _,_=>none
@[simp] theorem ae9(want:Bool):gB (.val undef) want=some false:=rfl
@[simp] theorem ae8(x:Bool):gB (.b x) true=some x:=by cases x<;>rfl
@[simp] theorem ae7(x:Bool):gB (.b x) false=some (!x):=by cases x<;>rfl
@[simp] theorem afd(f:e9):guardOf f none=some true:=rfl
@[simp] theorem afe(f:e9)(j:Nat)(w:Bool):guardOf f (some (j,w))=gB (f j) w:=by
 show(match f j with | .val (.bool b)=>some (b == w) | .val (.tuple _)=>some false|_=>none)=gB (f j) w
 unfold gB;split<;>simp_all
@[simp] theorem aeC(f:e9)(k:Nat):ev f (.t k)=f k:=rfl
@[simp] theorem aeB(f:e9)(d:D):ev f (.c d)=d:=rfl
@[simp] theorem ah6(env:Env)(k:Nat)(d:D):put env (some k) d=(k,d)::env:=rfl
@[simp] theorem ah5(env:Env)(d:D):put env none d=env:=rfl
@[simp] theorem acz(H:U)(al:Al):Dl.no.app H al=H:=rfl
@[simp] theorem acy(H:U)(al:Al)(ob:Ob):(Dl.new ob).app H al=al.2 ob:=rfl
@[simp] theorem acA(H:U)(al:Al)(v:Nat)(ob:Ob):(Dl.obj v ob).app H al=H.set v ob:=rfl
def setCells(H:U)(v o:Nat)(xs:List D):Option Ob→U
 | some (.row t g cs)=>H.set v (.row t g (cs.take o++xs++cs.drop (o+xs.length)))
 | _=>H
@[simp] theorem acw(H:U)(al:Al)(v o:Nat)(xs:List D):(Dl.cells v o xs).app H al=setCells H v o xs H[v]? := by
 show(match H[v]? with|some (.row t g cs)=>H.set v (.row t g (cs.take o++xs++cs.drop (o+xs.length)))|_=>H)=_
 unfold setCells;split<;>simp_all
@[simp] theorem aiF(H:U)(v o:Nat)(xs:List D)(t g:Nat)(cs:List D):setCells H v o xs (some (.row t g cs))=H.set v (.row t g (cs.take o++xs++cs.drop (o+xs.length))):=rfl
def Er(k:IntKind)(a b:Int):Int:=k.wrap (a*2 ^ (min b.toNat k.bits))
def sV(k:IntKind)(a b:Int):Int:=a.fdiv (2 ^ (min b.toNat k.bits))
section
variable{k:IntKind}{a b:Int}
@[simp] theorem acN:iZ .add (.val (.int k a)) (.val (.int k b))=ic .add k a b:=by simp[iZ,ml]
@[simp] theorem ac2:iZ .sub (.val (.int k a)) (.val (.int k b))=ic .sub k a b:=by simp[iZ,ml]
@[simp] theorem acV:iZ .mul (.val (.int k a)) (.val (.int k b))=ic .mul k a b:=by simp[iZ,ml]
@[simp] theorem acX:iZ .quo (.val (.int k a)) (.val (.int k b))=ic .quo k a b:=by simp[iZ,ml]
@[simp] theorem acY:iZ .rem (.val (.int k a)) (.val (.int k b))=ic .rem k a b:=by simp[iZ,ml]
@[simp] theorem acO:iZ .and (.val (.int k a)) (.val (.int k b))=some (.val (.int k (bits .and k a b))):=by simp[iZ,ml,ic]
@[simp] theorem acP:iZ .andNot (.val (.int k a)) (.val (.int k b))=some (.val (.int k (bits .andNot k a b))):=by simp[iZ,ml,ic]
@[simp] theorem acQ:iZ .eql (.val (.int k a)) (.val (.int k b))=some (.b (decide (a=b))):=by simp[iZ,ml,ic,BEq.beq]
@[simp] theorem acW:iZ .neq (.val (.int k a)) (.val (.int k b))=some (.b (!decide (a=b))):=by simp[iZ,ml,ic,bne,BEq.beq]
@[simp] theorem acU:iZ .lss (.val (.int k a)) (.val (.int k b))=some (.b (decide (a<b))):=by simp[iZ,ml,ic]
@[simp] theorem acT:iZ .leq (.val (.int k a)) (.val (.int k b))=some (.b (decide (a≤b))):=by simp[iZ,ml,ic]
@[simp] theorem acS:iZ .gtr (.val (.int k a)) (.val (.int k b))=some (.b (decide (a>b))):=by simp[iZ,ml,ic]
@[simp] theorem acR:iZ .geq (.val (.int k a)) (.val (.int k b))=some (.b (decide (a≥b))):=by simp[iZ,ml,ic]
@[simp] theorem acZ{k2:IntKind}:iZ .shl (.val (.int k a)) (.val (.int k2 b))=if 0≤b then some (.val (.int k (Er k a b)))else none:=rfl
@[simp] theorem ac0{k2:IntKind}:iZ .shr (.val (.int k a)) (.val (.int k2 b))=if 0≤b then some (.val (.int k (sV k a b)))else none:=rfl
@[simp] theorem ac1(op:BinOp)(s t:ByteArray):iZ op (.val (.string s)) (.val (.string t))=wE op s t:=rfl
@[simp] theorem aj1(x:Bool):zO .not (.b x)=some (.b !x):=rfl
@[simp] theorem aj0(n:Int):zO .neg (.i n)=if kE (-n)then some (.i (-n))else none:=rfl
@[simp] theorem aeq(k':IntKind):Cy k' (.val (.int k a))=some (.val (.int k' (k'.wrap a))):=rfl
end
@[simp] theorem aeG(off v g o:Nat):xK off (.ptr v g o)=some (.ptr v g (o+off)):=rfl
@[simp] theorem aeF(off:Nat)(cs:List D):xK off (.eF cs)=some (.eF (cs.drop off)):=rfl
@[simp] theorem aeH(off n:Nat)(cs:List D):tC off n true (.agg cs)=if off+n≤cs.length then some (.agg ((cs.drop off).take n))else none:=rfl
@[simp] theorem aeI(off n:Nat)(cs:List D):tC off n false (.agg cs)=cs[off]? := rfl
@[simp] theorem aeD(ds:List D)(i:Nat):CO (.tup ds) i=ds[i]? := rfl
@[simp] theorem agM(v g o:Nat):uz (.ptr v g o)=some (.ptr v g o):=rfl
@[simp] theorem agL(cs:List D):uz (.eF cs)=some (.eF cs):=rfl
@[simp] theorem agK(f:FuncId)(a b:List D):uz (.fn (.func f) a b)=some (.fn (.func f) a b):=rfl
@[simp] theorem agN(v:Nat):uz (.gv v)=some (.gv v):=rfl
def rowOf(k:Nat):Option Ob→Option (TypeId×List D)
 | some (.row t g cs)=>if g=k then some (t,cs)else none
 | _=>none
@[simp] theorem aiD(H:U)(v k:Nat):rowAt H v k=rowOf k H[v]? := by
 unfold rowAt rowOf;split<;>simp_all
@[simp] theorem aiE(k:Nat)(t:TypeId)(g:Nat)(cs:List D):rowOf k (some (.row t g cs))=if g=k then some (t,cs)else none:=rfl
@[simp] theorem afZ(v g o:Nat)(H:U):qp (.ptr v g o) H=(rowAt H v g).bind fun p=>p.2[o]? := by
 show(match rowAt H v g with|some (_,cs)=>cs[o]? | none=>none)=_
 cases rowAt H v g<;>rfl
@[simp] theorem afY(cs:List D)(H:U):qp (.eF cs) H=cs[0]? := rfl
def qt(n o:Nat):Option (TypeId×List D)→Option D
 | some p=>if o+n≤p.2.length then some (.agg ((p.2.drop o).take n))else none
 | none=>none
@[simp] theorem af4(n o:Nat):qt n o none=none:=rfl
@[simp low] theorem af5(n o:Nat)(p:TypeId×List D):qt n o (some p)=if o+n≤p.2.length then some (.agg ((p.2.drop o).take n))else none:=rfl
@[simp] theorem af1(n v g o:Nat)(H:U):qq n (.ptr v g o) H=qt n o (rowAt H v g):=by
 show(match rowAt H v g with|some (_,cs)=>if o+n≤cs.length then some (D.agg ((cs.drop o).take n))else none|none=>none)=_
 cases rowAt H v g<;>rfl
@[simp] theorem af0(n:Nat)(cs:List D)(H:U):qq n (.eF cs) H=if n≤cs.length then some (.agg (cs.take n))else none:=rfl
@[simp] theorem ajv(v g o:Nat)(x:D)(H:U):uQ (.ptr v g o) x H=(rowAt H v g).bind fun p=>if o<p.2.length∧one x=true then some (.any,.cells v o [x])else none:=by
 show(match rowAt H v g with|some (_,cs)=>if o<cs.length∧one x=true then some (D.any,Dl.cells v o [x])else none|none=>none)=_
 cases rowAt H v g<;>rfl
@[simp] theorem ajw(n v g o:Nat)(xs:List D)(H:U):uR n (.ptr v g o) (.agg xs) H=(rowAt H v g).bind fun p=>if xs.length=n∧o+n≤p.2.length then some (.any,.cells v o xs)else none:=by
 show(match rowAt H v g with|some (_,cs)=>if xs.length=n∧o+n≤cs.length then some (D.any,Dl.cells v o xs)else none|none=>none)=_
 cases rowAt H v g<;>rfl
@[simp] theorem ac7(t:TypeId)(cs:List D)(n:Nat):mT t (.agg cs) n=some (.ptr n 0 0,.new (.row t 0 cs)):=rfl
@[simp] theorem adr(cs:List D):cellsOf (.agg cs)=some cs:=rfl
@[simp] theorem adz(k:IntKind)(n:Int):cellsOf (.val (.int k n))=some [.val (.int k n)]:=rfl
@[simp] theorem ads(b:Bool):cellsOf (.b b)=some [.b b]:=rfl
@[simp] theorem adE(b:ByteArray):cellsOf (.val (.string b))=some [.val (.string b)]:=rfl
@[simp] theorem adD(sz:Nat)(es:List (List D)):cellsOf (.sl sz es)=some [.sl sz es]:=rfl
@[simp] theorem adt(l:List Int):cellsOf (dI l)=some [dI l]:=rfl
@[simp] theorem OD(l:List Pos):cellsOf (fe l)=some [fe l]:=rfl
@[simp] theorem OC(l:List eG):cellsOf (fq l)=some [fq l]:=rfl
@[simp] theorem adw:cellsOf .emp=some [.emp]:=rfl
@[simp] theorem adB(v g sz off n:Nat):cellsOf (.et v g sz off n)=some [.et v g sz off n]:=rfl
@[simp] theorem adC(v g o:Nat):cellsOf (.ptr v g o)=some [.ptr v g o]:=rfl
@[simp] theorem ady(cs:List D):cellsOf (.eF cs)=some [.eF cs]:=rfl
@[simp] theorem adA(v:Nat):cellsOf (.omap v)=some [.omap v]:=rfl
@[simp] theorem adx(f:Fn)(a b:List D):cellsOf (.fn f a b)=some [.fn f a b]:=rfl
@[simp] theorem ahM(k:IntKind)(n:Int):one (.val (.int k n))=true:=rfl
@[simp] theorem ahE(b:Bool):one (.b b)=true:=rfl
@[simp] theorem ahR(b:ByteArray):one (.val (.string b))=true:=rfl
@[simp] theorem ahQ(sz:Nat)(es:List (List D)):one (.sl sz es)=true:=rfl
@[simp] theorem ahF(l:List Int):one (dI l)=true:=rfl
@[simp] theorem ahH(l:List Pos):one (fe l)=true:=rfl
@[simp] theorem ahG(l:List eG):one (fq l)=true:=rfl
@[simp] theorem ahJ:one .emp=true:=rfl
@[simp] theorem ahO(v g sz off n:Nat):one (.et v g sz off n)=true:=rfl
@[simp] theorem ahP(v g o:Nat):one (.ptr v g o)=true:=rfl
@[simp] theorem ahL(cs:List D):one (.eF cs)=true:=rfl
@[simp] theorem ahN(v:Nat):one (.omap v)=true:=rfl
@[simp] theorem ahK(f:Fn)(a b:List D):one (.fn f a b)=true:=rfl
@[simp] theorem adj(f:e9)(z:List D)(ps:List (Nat×Nat×X)):ve f z ps=(partsOf f ps).bind fun l=>(lay l z).bind fun cs=>some (D.agg cs):=by
 unfold ve;cases partsOf f ps with
 | none=>rfl
 | some l=>simp only[Option.bind_some];cases lay l z<;>rfl
@[simp] theorem adi(f:e9)(t sz:Nat)(z:List D)(m:Nat)(ps:List (Nat×X))(n:Nat):rS f t sz z m ps n=(partsOf f (ps.map fun p=>(p.1*sz,sz,p.2))).bind fun l=>(lay l (List.replicate m z).flatten).bind fun cs=>some (.et n 0 sz 0 m,.new (.row t 0 cs)):=by
 unfold rS;cases partsOf f (ps.map fun p=>(p.1*sz,sz,p.2))with
 | none=>rfl
 | some l=>simp only[Option.bind_some];cases lay l (List.replicate m z).flatten<;>rfl
@[simp] theorem ahZ(f:e9):partsOf f []=some []:=rfl
@[simp] theorem ahY(f:e9)(o n:Nat)(x:X)(r:List (Nat×Nat×X)):partsOf f ((o,n,x)::r)=(cellsOf (ev f x)).bind fun cs=>(partsOf f r).bind fun l=>some ((o,n,cs)::l):=by
 show(match cellsOf (ev f x),partsOf f r with|some cs,some l=>some ((o,n,cs)::l)|_,_=>none)=_
 cases cellsOf (ev f x)<;>cases partsOf f r<;>rfl
@[simp] theorem afm(sz v g off len:Nat)(k:IntKind)(n:Int):ly sz (.et v g sz off len) (.val (.int k n))=if 0≤n∧n<len then some (.ptr v g ((off+n.toNat)*sz))else none:=by
 simp[ly]
@[simp] theorem afo(sz n v g o:Nat)(k:IntKind)(i:Int):yB sz n (.ptr v g o) (.val (.int k i))=if 0≤i∧i<n then some (.ptr v g (o+i.toNat*sz))else none:=rfl
@[simp] theorem afn(sz n:Nat)(cs:List D)(k:IntKind)(i:Int):yB sz n (.eF cs) (.val (.int k i))=if 0≤i∧i<n then some (.eF (cs.drop (i.toNat*sz)))else none:=rfl
@[simp] theorem afp(sz n:Nat)(b:Bool)(cs:List D)(k:IntKind)(i:Int):DB sz n b (.agg cs) (.val (.int k i))=if 0≤i∧i<n then tC (i.toNat*sz) sz b (.agg cs)else none:=rfl
@[simp] theorem ac5(f:e9)(n:Int):gE f none n=some n:=rfl
def G3:D→Option Int
 | .val (.int _ n)=>some n
 | _=>none
@[simp] theorem afr(k:IntKind)(n:Int):G3 (.val (.int k n))=some n:=rfl
@[simp] theorem ac6(f:e9)(x:X)(n:Int):gE f (some x) n=G3 (ev f x):=by
 show(match ev f x with | .val (.int _ n)=>some n|_=>none)=_
 unfold G3;split<;>simp_all
@[simp] theorem ZE(f:e9)(sz:Nat)(es:List (List D))(lo hi:Option X):pI f sz (.sl sz es) lo hi=(gE f lo 0).bind fun l=>(gE f hi es.length).bind fun h=>if 0≤l∧l≤h∧h≤es.length then some (.sl sz ((es.drop l.toNat).take (h.toNat-l.toNat)))else none:=by
 simp only[pI]
 cases gE f lo 0<;>cases gE f hi es.length<;>simp
@[simp] theorem ajn(f:e9)(sz v g off len:Nat)(lo hi:Option X):pI f sz (.et v g sz off len) lo hi=(gE f lo 0).bind fun l=>(gE f hi len).bind fun h=>if 0≤l∧l≤h∧h≤len then some (.et v g sz (off+l.toNat) (h.toNat-l.toNat))else none:=by
 simp only[pI]
 cases gE f lo 0<;>cases gE f hi len<;>simp
@[simp] theorem ajm(f:e9)(sz:Nat)(lo hi:Option X):pI f sz .emp lo hi=(gE f lo 0).bind fun l=>(gE f hi 0).bind fun h=>if l=0∧h=0 then some .emp else none:=by
 simp only[pI]
 cases gE f lo 0<;>cases gE f hi 0<;>simp
theorem ZD{α:Type}(f:α→List D)(l:List α)(a b:Nat):((l.map f).drop a).take b=((l.drop a).take b).map f:=by rw[List.map_take,ec]
@[simp] theorem ajl(f:e9)(l:List Pos)(lo hi:Option X):pI f 5 (fe l) lo hi=(gE f lo 0).bind fun a=>(gE f hi l.length).bind fun h=>if 0≤a∧a≤h∧h≤l.length then some (fe ((l.drop a.toNat).take (h.toNat-a.toNat)))else none:=by
 unfold fe;rw[ZE,List.length_map];simp only[ZD]
@[irreducible] def cl{α:Type}(f:α→List D)(l:List α):List D:=(l.map f).flatten
theorem lF{α:Type}(f:α→List D)(l:List α):cl f l=(l.map f).flatten:=by rw[cl]
@[simp] theorem ZG(sz:Nat)(H:U)(es:List (List D)):jt sz H (.sl sz es)=some (es.flatten,es.length):=by simp[jt]
@[simp] theorem Eu{α:Type}(sz:Nat)(f:α→List D)(H:U)(l:List α):jt sz H (.sl sz (l.map f))=some (cl f l,l.length):=by
 rw[ZG,List.length_map,lF]
@[simp] theorem ajo(H:U)(l:List Int):jt 1 H (dI l)=some (cl f1 l,l.length):=by unfold dI;exact Eu ..
@[simp] theorem ajr(H:U)(l:List Pos):jt 5 H (fe l)=some (cl Pos.cells l,l.length):=by unfold fe;exact Eu ..
@[simp] theorem ajp{α:Type}(sz:Nat)(f:α→List D)(H:U)(l:List α):jt sz H (dN sz f l)=some (cl f l,l.length):=by
 cases l with
 | nil=>show some ([],0)=_;rw[lF];rfl
 | cons a l=>exact Eu sz f H (a::l)
@[simp] theorem ajs(sz:Nat)(H:U):jt sz H .emp=some ([],0):=rfl
@[simp] theorem aju(sz:Nat)(H:U)(v g off len:Nat):jt sz H (.et v g sz off len)=(rowAt H v g).bind fun p=>if (off+len)*sz≤p.2.length then some ((p.2.drop (off*sz)).take (len*sz),len)else none:=by
 simp only[jt]
 cases rowAt H v g<;>simp
@[simp] theorem acB(t sz bytes v g len:Nat)(y:D)(H:U)(vn:Nat):o4 t sz bytes (.et v g sz 0 len) y H vn=(jt sz H y).bind fun q=>(rowAt H v g).bind fun r=>if r.1=t∧len*sz≤r.2.length∧(len+q.2)*bytes≤140737488355328∧len+q.2≤9223372036854775807 then some (.et v (g+1) sz 0 (len+q.2),.obj v (.row t (g+1) (r.2.take (len*sz)++q.1)))else none:=by
 simp only[o4]
 cases jt sz H y with
 | none=>rfl
 | some q=>cases rowAt H v g<;>simp
@[simp] theorem acx(t sz bytes:Nat)(y:D)(H:U)(vn:Nat):o4 t sz bytes .emp y H vn=(jt sz H y).bind fun q=>if q.2=0 then some (.emp,.no)else if q.2*bytes≤140737488355328∧q.2≤9223372036854775807 then some (.et vn 0 sz 0 q.2,.new (.row t 0 q.1))else none:=by
 simp only[o4]
 cases jt sz H y<;>rfl
@[simp] theorem agI(t sz bytes:Nat)(z:List D)(k k':IntKind)(n m:Int)(v:Nat):vZ t sz bytes z (.val (.int k n)) (.val (.int k' m)) v=if 0≤n∧n≤m∧mm m 9223372036854775807∧mm ((bytes:Int)*m) 281474976710656 then some (.et v 0 sz 0 n.toNat,.new (.row t 0 (List.replicate m.toNat z).flatten))else none:=rfl
@[simp] theorem af7(n:Int)(k:Nat):mm n k=(n≤(k:Int)):=rfl
@[simp] theorem aft(f:e9):mK f []=some []:=rfl
def G0:D→Option Int
 | .val (.int .i64 n)=>some n
 | _=>none
@[simp] theorem afl(n:Int):G0 (.i n)=some n:=rfl
@[simp] theorem afs(f:e9)(x:X)(r:List X):mK f (x::r)=(G0 (ev f x)).bind fun n=>(mK f r).bind fun l=>some (n::l):=by
 show(match ev f x,mK f r with | .val (.int .i64 n),some l=>some (n::l)|_,_=>none)=_
 unfold G0
 split
 ·rename_i h1 h2;rw[h1,h2];rfl
 ·rename_i h
  split
  ·rename_i n hn
   cases hl:mK f r with
   | none=>rfl
   | some l=>exact absurd hl (h _ _ hn)
  ·rfl
def Hq(isMax:Bool):List Int→Option D
 | [a,b]=>some (.i (if isMax then max a b else min a b))
 | [a,b,c]=>some (.i (if isMax then max (max a b) c else min (min a b) c))
 | _=>none
@[simp] theorem mm2(m:Bool)(a b:Int):Hq m [a,b]=some (.i (if m then max a b else min a b)):=rfl
@[simp] theorem agH(f:e9)(m:Bool)(xs:List X):vY f m xs=(mK f xs).bind (Hq m):=by
 unfold vY
 cases mK f xs with
 | none=>rfl
 | some l=>simp only[Option.bind_some];unfold Hq;split<;>simp_all
@[simp] theorem adl(f:e9)(g:FuncId)(args:List X):im f (.call g args)=some (g,args.map (ev f)):=rfl
def Ck(args:List D):D→Option (FuncId×List D)
 | .fn (.func k) first cap=>some (k,first++args++cap)
 | _=>none
@[simp] theorem adk(args:List D)(k:FuncId)(first cap:List D):Ck args (.fn (.func k) first cap)=some (k,first++args++cap):=rfl
@[simp] theorem Oy(f:e9)(g:X)(args:List X):im f (.callv g args)=Ck (args.map (ev f)) (ev f g):=by
 show(match ev f g with | .fn (.func k) first cap=>some (k,first++args.map (ev f)++cap)|_=>none)=_
 unfold Ck;split<;>simp_all
def Hb(z:D)(ok:Bool):Option D→D
 | some d=>if ok then .tup [d,.b true]else d
 | none=>if ok then .tup [z,.b false]else z
@[simp] theorem agu(z:D)(ok:Bool)(d:D):Hb z ok (some d)=if ok then .tup [d,.b true]else d:=rfl
@[simp] theorem agt(z:D)(ok:Bool):Hb z ok none=if ok then .tup [z,.b false]else z:=rfl
@[simp] theorem agv(kk:KK)(z:D)(ok:Bool)(v:Nat)(k:D)(H:U):um kk z ok (.omap v) k H=(keyOf k).bind fun kv=>(kc H v).bind fun p=>if p.1=kk∧p.1.has kv=true then some (Hb z ok (mq p.2 kv))else none:=by
 unfold um
 cases keyOf k with
 | none=>rfl
 | some kv=>
  cases h:kc H v with
  | none=>simp[h]
  | some p=>
   simp only[h,Option.bind_some]
   split
   ·cases mq p.2 kv<;>rfl
   ·rfl
@[simp] theorem agG(kk:KK)(v:Nat)(k x:D)(H:U):sN kk (.omap v) k x H=(keyOf k).bind fun kv=>(kc H v).bind fun p=>if p.1=kk∧p.1.has kv=true then some (.any,.obj v (.map p.1 (kG p.2 kv x)))else none:=by
 unfold sN
 cases keyOf k with
 | none=>rfl
 | some kv=>cases h:kc H v<;>simp[h]
def mapOf:Option Ob→Option (KK×List (Value×D))
 | some (.map kk es)=>some (kk,es)
 | _=>none
@[simp] theorem agF(kk:KK)(es:List (Value×D)):mapOf (some (.map kk es))=some (kk,es):=rfl
@[simp] theorem agE(H:U)(v:Nat):kc H v=mapOf H[v]? := by
 unfold kc mapOf;split<;>simp_all
@[simp] theorem afV(s:ByteArray):keyOf (.val (.string s))=some (.string s):=rfl
@[simp] theorem afT(b:Bool):keyOf (.b b)=some (.bool b):=rfl
@[simp] theorem afU(k:IntKind)(n:Int):keyOf (.val (.int k n))=some (.int k n):=rfl
@[simp] theorem aez(ls:List lB)(neg:Bool)(x y:D):tv false ls neg x y=(lh ls [x] [y]).bind fun r=>some (.b (if neg then !r else r)):=by
 simp only[tv]
 cases lh ls [x] [y]<;>rfl
@[simp] theorem aey(ls:List lB)(neg:Bool)(x y:List D):tv true ls neg (.agg x) (.agg y)=(lh ls x y).bind fun r=>some (.b (if neg then !r else r)):=by
 simp only[tv]
 cases lh ls x y<;>rfl
@[simp] theorem adq:lh [] [] []=some true:=rfl
@[simp] theorem adp(l:lB)(ls:List lB)(x y:D)(xs ys:List D):lh (l::ls) (x::xs) (y::ys)=(o5 l x y).bind fun a=>(lh ls xs ys).bind fun b=>some (a&&b):=by
 show(match o5 l x y,lh ls xs ys with|some a,some b=>some (a&&b)|_,_=>none)=_
 cases o5 l x y<;>cases lh ls xs ys<;>rfl
@[simp] theorem adn(a b:Int):o5 .int (.i a) (.i b)=some (decide (a=b)):=by simp[o5,BEq.beq]
@[simp] theorem adm(a b:Bool):o5 .bool (.b a) (.b b)=some (a == b):=rfl
@[simp] theorem ado(a b:ByteArray):o5 .str (.val (.string a)) (.val (.string b))=some (a.data.toList == b.data.toList):=rfl
attribute [simp] eX kill oV wu eY gP qP pD oG oF jR DU lay Al.last mq kG oh KK.has eT
@[simp] theorem aj8(v g sz off n:Nat):ko (.et v g sz off n) = [(v,none)]:=rfl
@[simp] theorem aj7(v:Nat):ko (.omap v) = [(v,none)]:=rfl
@[simp] theorem aka(sz:Nat)(es:List (List D)):ko (.sl sz es) = []:=rfl
@[simp] theorem aj5:ko .emp = []:=rfl
@[simp] theorem akb(v:Value):ko (.val v) = []:=rfl
@[simp] theorem aj3(cs:List D):ko (.agg cs) = []:=rfl
@[simp] theorem aj6(cs:List D):ko (.eF cs) = []:=rfl
@[simp] theorem aj9(v g o:Nat):ko (.ptr v g o) = []:=rfl
@[simp] theorem aj4(l:List Int):ko (dI l) = []:=by unfold dI;rfl
def XB(d:D)(P Q:Prop)(_:Tag (PProd.mk P Q)):Prop:=∃ x,d = .b x∧(x=true→P)∧(x=false→Q)
def X2(x:Bool)(P Q:Prop)(_:Tag (PProd.mk P Q)):Prop:=(x=true→P)∧(x=false→Q)
@[simp] theorem aau(P Q:Prop):X2 true P Q .mk=P:=by simp[X2]
@[simp] theorem aar(P Q:Prop):X2 false P Q .mk=Q:=by simp[X2]
@[simp] theorem aas(x:Bool)(P Q:Prop):X2 (!x) P Q .mk=X2 x Q P .mk:=by cases x<;>simp[X2]
@[simp] theorem aat(x y:Bool)(P Q:Prop):X2 (!x || !y) P Q .mk=X2 (x&&y) Q P .mk:=by cases x<;>cases y<;>simp[X2]
theorem X2.d{p:Prop}[Decidable p]{P Q:Prop}(h:p→P)(k:¬p→Q):X2 (decide p) P Q .mk:=⟨fun e=>h (of_decide_eq_true e),fun e=>k (of_decide_eq_false e)⟩
theorem X2.a{p q:Prop}[Decidable p][Decidable q]{P Q:Prop}(h:p→q→P)(k:¬(p∧q)→Q):X2 (decide p&&decide q) P Q .mk:=by
 rw[← dM];exact X2.d (fun e=>h e.1 e.2) k
theorem X2.o{p q:Prop}[Decidable p][Decidable q]{P Q:Prop}(h:p∨q→P)(k:¬(p∨q)→Q):X2 (decide p||decide q) P Q .mk:=by
 rw[← dT];exact X2.d h k
theorem X2.z{p:Prop}[Decidable p]{P Q:Prop}(h:¬p)(k:Q):X2 (decide p) P Q .mk:=X2.d (fun n=>absurd n h) (fun _=>k)
@[simp] theorem aaw(x:Bool)(a b:D)(P Q:Prop):XB (bif x then a else b) P Q .mk=X2 x (XB a P Q .mk) (XB b P Q .mk) .mk:=by
 cases x<;>simp
theorem X2.b{x:Bool}{P Q:Prop}(h:x=true→P)(k:x=false→Q):X2 x P Q .mk:=⟨h,k⟩
theorem Xg{p q:Prop}(b:q)(a:p:=by first|omega|assumption):p∧q:=⟨a,b⟩
@[simp] theorem aav(x:Bool)(P Q:Prop):XB (.b x) P Q .mk=X2 x P Q .mk:=by
 cases x<;>simp[XB,X2]
@[simp high] theorem aay(P Q:Prop):XB (.b true) P Q .mk=P:=by simp[XB]
@[simp high] theorem aax(P Q:Prop):XB (.b false) P Q .mk=Q:=by simp[XB]
def XG(g:Option Bool)(P Q:Prop)(_:Tag (PProd.mk P Q)):Prop:=∃ x,g=some x∧(x=true→P)∧(x=false→Q)
@[simp] theorem aaO(x:Bool)(P Q:Prop):XG (some x) P Q .mk=X2 x P Q .mk:=by
 cases x<;>simp[XG,X2]
@[simp high] theorem aaR(P Q:Prop):XG (some true) P Q .mk=P:=by simp[XG]
@[simp high] theorem aaQ(P Q:Prop):XG (some false) P Q .mk=Q:=by simp[XG]
@[simp] theorem aaP(x w:Bool)(a b:D)(P Q:Prop):XG (gB (bif x then a else b) w) P Q .mk=X2 x (XG (gB a w) P Q .mk) (XG (gB b w) P Q .mk) .mk:=by
 cases x<;>simp
def kp(s:St)(dst:Option Nat)(K:St→Prop):D×Dl→Prop:=fun p=>K { s with env:=put s.env dst p.1,H:=p.2.app s.H (Al.last s.H) }
def kt(s:St)(dst:Option Nat)(R:List Fp)(Q:Rc→St→Prop):D×Dl→Prop:=fun p=>Q ⟨R,gP s.H.length p.2⟩ { s with env:=put s.env dst p.1,H:=p.2.app s.H (Al.last s.H) }
section
variable(T:fE)
def eS(f:FuncId)(args:List D)(dst:Option Nat)(s:St)(K:St→Prop)(_:Tag (dst,s,K)):Prop:=
 (∃ fn,T.fn f=some fn∧fn.full=false∧Wf T f (args.map (eB (fun _=>none) s.H 40)) [] fun d Hn=>oA (after s dst args d Hn) K .mk) ∨
 (∃ fn,T.fn f=some fn∧fn.full=true∧Wf T f args s.H fun d H'=>K { s with env:=put s.env dst d,H:=H' })
def gi(f:FuncId)(args:List D)(R:List Fp)(dst:Option Nat)(s:St)(Q:Rc→St→Prop)(_:Tag (dst,s,Q)):Prop:=
 ∃ fn d,T.fn f=some fn∧fn.full=false∧Wf T f (args.map (eB (fun _=>none) s.H 40)) [] (fun d' Hn=>d'=d∧Hn = [])∧(if eT args then closed d else flat d)=true∧Q ⟨R,[]⟩ { s with env:=put s.env dst d }
def rN(f:FuncId)(args:List D)(R:List Fp)(dst:Option Nat)(s:St)(Q:Rc→St→Prop)(t:Tag (dst,s,Q)):Prop:=
 gi T f args R dst s Q t∨∃ fn d ob,T.fn f=some fn∧fn.full=false∧Wf T f (args.map (eB (fun _=>none) s.H 40)) [] (fun d' Hn=>d'=d∧Hn = [ob]) ∧
  (if eT args then jP d&&kO ob else lN d&&lT ob)=true∧Q ⟨R,[(s.H.length,none)]⟩ { s with env:=put s.env dst (ix s.H.length d),H:=s.H ++ [ob] }
def o3(f:FuncId)(args:List D)(R:List Fp)(dst:Option Nat)(s:St)(Q:Rc→St→Prop)(t:Tag (dst,s,Q)):Prop:=
 rN T f args R dst s Q t∨∃ fn d v,T.fn f=some fn∧fn.full=false∧(∀ u∈(args.map (fw s.H 40)).flatten,u=v)∧v∈(args.map (fw s.H 40)).flatten∧(rowsOf s.H v).isSome=true ∧
  eT (args.map (eB (fun _=>none) s.H 40))=true∧Wf T f (args.map (eB (fun _=>none) s.H 40)) [] (fun d' Hn=>d'=d∧Hn = [])∧closed d=true∧Q ⟨R,[(v,none)]⟩ { s with env:=put s.env dst d,H:=s.H.set v .dead }
def uH(v rf:Nat)(dst:Option Nat)(s:St)(K:St→Prop):gh:=fun o=>∃ iH,o.st.H[v]? = some (.fy rf iH .busy)∧K { s with env:=put s.env dst (.b !o.stop),H:=o.st.H.set v (.fy rf iH o.sS) }
def nQ(v:Nat)(args:List D)(dst:Option Nat)(s:St)(K:St→Prop)(_:Tag (dst,s,K)):Prop:=
 ∃ rf env0 Rd,s.H[v]? = some (.fy rf env0 .ready)∧T.round rf=some Rd∧args.length=Rd.params.length ∧
  Wc T Rd.a { env:=oz Rd.params args env0,H:=s.H,fM:=true } fun o=>∃ s1 iS,o = .norm s1∧s1.H[v]? = some (.fy rf iS .ready)∧Wc T Rd.b { s1 with H:=s1.H.set v (.fy rf iS .busy) } (uH v rf dst s K)
def pU(d:D)(args:List D)(dst:Option Nat)(s:St)(K:St→Prop)(t:Tag (dst,s,K)):Prop:=
 match d with
 | .gv v=>nQ T v args dst s K t
 | d=>oA (Ck args d) (fun p=>eS T p.1 p.2 dst s K t) .mk
def u6(x:D)(dst:Option Nat)(s:St)(K:St→Prop)(_:Tag (dst,s,K)):Prop:=
 ∃ v m since seen kk es,x = .ptr v 0 0∧s.H[v]? = some (.jD (.omap m) since seen)∧s.H[m]? = some (.map kk es)∧es.length=since ∧
  ((∀ i,i<es.length→i∈seen)→K { s with env:=put s.env dst (.tup [.b false]) }) ∧
  (∀ i k d,es[i]? = some (k,d)→i ∉ seen→K { s with env:=put s.env dst (.tup [.b true,.val k,d]),H:=s.H.set v (.jD (.omap m) since (seen ++ [i])) })
def ga(op:fR)(dst:Option Nat)(s:St)(K:St→Prop):Prop:=
 match op with
 | .call f args=>eS T f (args.map (ev s.env.get)) dst s K .mk
 | .callN f args=>eS T f (args.map (ev s.env.get)) dst s K .mk
 | .callv f args=>pU T (ev s.env.get f) (args.map (ev s.env.get)) dst s K .mk
 | .nilS a b=>oA (jR s.env.get s.H s.H.length (.nilS a b)) (kp s dst K) .mk
 | .capE a=>oA (jR s.env.get s.H s.H.length (.capE a)) (kp s dst K) .mk
 | .appZ a b c d e f=>oA (jR s.env.get s.H s.H.length (.appZ a b c d e f)) (kp s dst K) .mk
 | .clr a b c=>oA (jR s.env.get s.H s.H.length (.clr a b c)) (kp s dst K) .mk
 | .rangeS a=>oA (jR s.env.get s.H s.H.length (.rangeS a)) (kp s dst K) .mk
 | .nextS a=>oA (jR s.env.get s.H s.H.length (.nextS a)) (kp s dst K) .mk
 | .rangeM a=>oA (jR s.env.get s.H s.H.length (.rangeM a)) (kp s dst K) .mk
 | .entry a=>oA (jR s.env.get s.H s.H.length (.entry a)) (kp s dst K) .mk
 | .nextM a=>u6 (ev s.env.get a) dst s K .mk
 | op=>oA (eX s.env.get s.H s.H.length op) (kp s dst K) .mk
def gU(op:fR)(dst:Option Nat)(s:St)(Q:Rc→St→Prop):Prop:=
 match op with
 | .call f args=>gi T f (args.map (ev s.env.get)) (eY s.env.get s.H (.call f args)) dst s Q .mk
 | .callN f args=>o3 T f (args.map (ev s.env.get)) (eY s.env.get s.H (.callN f args)) dst s Q .mk
 | .callv f args=>oA (im s.env.get (.callv f args)) (fun p=>gi T p.1 p.2 (eY s.env.get s.H (.callv f args)) dst s Q .mk) .mk
 | op=>oA (eX s.env.get s.H s.H.length op) (kt s dst (eY s.env.get s.H op) Q) .mk
def XO:List eV→St→(St→Prop)→Prop
 | [],s,K=>K s
 | e::r,s,K=>XG (guardOf s.env.get e.guard) (ga T e.op e.dst s fun s'=>XO r s' K) (XO r { s with env:=put s.env e.dst (.val undef) } K) .mk
def XT:List eV→St→(List Rc→St→Prop)→Prop
 | [],s,K=>K [] s
 | e::r,s,K=>XG (guardOf s.env.get e.guard) (gU T e.op e.dst s fun rc s'=>XT r s' fun rs s2=>K (rc::rs) s2) (XT r { s with env:=put s.env e.dst (.val undef) } fun rs s2=>K (⟨[],[]⟩::rs) s2) .mk
end
section
variable{T:fE}
theorem Hw{α:Type}{x:Option α}{P Q:α→Prop}{t:Tag P}{u:Tag Q}(h:oA x P t)(hi:∀ a,P a→Q a):oA x Q u:=by
 obtain⟨a,h1,h2⟩:=h;exact⟨a,h1,hi a h2⟩
theorem eS.mono{f:FuncId}{args:List D}{dst:Option Nat}{s:St}{K K':St→Prop}{t:Tag (dst,s,K)}{u:Tag (dst,s,K')}(h:eS T f args dst s K t)(hi:∀ s,K s→K' s):eS T f args dst s K' u:=by
 rcases h with⟨fn,hf,hp,h⟩|⟨fn,hf,hp,h⟩
 ·exact .inl ⟨fn,hf,hp,Wf.mono h fun d Hn h=>Hw h hi⟩
 ·exact .inr ⟨fn,hf,hp,Wf.mono h fun d H h=>hi _ h⟩
theorem nQ.mono{v:Nat}{args:List D}{dst:Option Nat}{s:St}{K K':St→Prop}{t:Tag (dst,s,K)}{u:Tag (dst,s,K')}(h:nQ T v args dst s K t)(hi:∀ s,K s→K' s):nQ T v args dst s K' u:=by
 obtain⟨rf,env0,Rd,hv,hR,hl,h⟩:=h
 exact⟨rf,env0,Rd,hv,hR,hl,h.mono fun o ⟨s1,iS,he,h1,h2⟩=>⟨s1,iS,he,h1,h2.mono fun o ⟨iH,h3,h4⟩=>⟨iH,h3,hi _ h4⟩⟩⟩
theorem pU.mono{d:D}{args:List D}{dst:Option Nat}{s:St}{K K':St→Prop}{t:Tag (dst,s,K)}{u:Tag (dst,s,K')}(h:pU T d args dst s K t)(hi:∀ s,K s→K' s):pU T d args dst s K' u:=by
 unfold pU at h ⊢
 split at h
 ·exact nQ.mono h hi
 ·exact Hw h fun p hp=>eS.mono hp hi
theorem u6.mono{x:D}{dst:Option Nat}{s:St}{K K':St→Prop}{t:Tag (dst,s,K)}{u:Tag (dst,s,K')}(h:u6 x dst s K t)(hi:∀ s,K s→K' s):u6 x dst s K' u:=by
 obtain⟨v,m,since,seen,kk,es,h1,h2,h3,h4,h5,h6⟩:=h
 exact⟨v,m,since,seen,kk,es,h1,h2,h3,h4,fun h=>hi _ (h5 h),fun i k d e1 e2=>hi _ (h6 i k d e1 e2)⟩
theorem ga.mono{op:fR}{dst:Option Nat}{s:St}{K K':St→Prop}(h:ga T op dst s K)(hi:∀ s,K s→K' s):ga T op dst s K':=by
 unfold ga at h ⊢
 split at h<;>first
  | exact eS.mono h hi
  | exact pU.mono h hi
  | exact u6.mono h hi
  | exact Hw h fun p hp=>hi _ hp
theorem XO.mono:∀ {l:List eV} {s:St} {K K':St→Prop},XO T l s K→(∀ s,K s→K' s)→XO T l s K'
 | [],s,K,K',h,hi=>hi s h
 | e::r,s,K,K',h,hi=>by
  obtain⟨x,hg,ht,hf⟩:=h
  exact⟨x,hg,fun e=>ga.mono (ht e) fun s' h=>XO.mono h hi,fun e=>XO.mono (hf e) hi⟩
theorem eS.wo{f:FuncId}{args:List D}{s:St}{K:St→Prop}{e:eV}{r:List eV}(hg:guardOf s.env.get e.guard=some true)(hc:im s.env.get e.op=some (f,args))(h:eS T f args e.dst s (fun s'=>Wo T r s' K) .mk):Wo T (e::r) s K:=by
 rcases h with⟨fn,hf,hp,h⟩|⟨fn,hf,hp,h⟩
 ·refine Ev.xm hg hc hf hp h (fun d Hn hd=>?_) fun d Hn s' hd fm=>?_
  ·obtain⟨d',H',he,s',hs,hk⟩:=hd
   cases he;rw[hs];rfl
  ·obtain⟨d',H',he,s2,hs,hk⟩:=hd
   cases he
   rw[hs]at fm;cases fm
   exact hk
 ·exact Ev.xl hg hc hf hp h fun d H' hd=>by
   obtain⟨d',H2,he,hk⟩:=hd
   cases he;exact hk
theorem XO.qB{l2:List eV}{K:St→Prop}:∀ {l:List eV} {s:St},XO T l s (fun s'=>Wo T l2 s' K)→Wo T (l++l2) s K
 | [],s,h=>h
 | e::r,s,h=>by
  obtain⟨x,hg,ht,hf⟩:=h
  cases x with
  | false=>exact Wo.off hg (XO.qB (hf rfl))
  | true=>
   have h:=ht rfl
   have plain:oA (eX s.env.get s.H s.H.length e.op) (kp s e.dst fun s'=>XO T r s' fun s'=>Wo T l2 s' K) .mk→Wo T (e::r++l2) s K:=fun⟨⟨d,δ⟩,hd,hk⟩=>Wo.op hg hd (XO.qB hk)
   have sp:oA (jR s.env.get s.H s.H.length e.op) (kp s e.dst fun s'=>XO T r s' fun s'=>Wo T l2 s' K) .mk→Wo T (e::r++l2) s K:=fun⟨⟨d,δ⟩,hd,hk⟩=>Wo.uO hg hd (XO.qB hk)
   have call:∀ f args,im s.env.get e.op=some (f,args)→eS T f args e.dst s (fun s'=>XO T r s' fun s'=>Wo T l2 s' K) .mk→Wo T (e::r++l2) s K:=fun f args hc hx=>by
    refine eS.wo hg hc ?_
    rcases hx with⟨fn,hf,hp,h⟩|⟨fn,hf,hp,h⟩
    ·exact .inl ⟨fn,hf,hp,Wf.mono h fun d Hn ⟨s',h1,h2⟩=>⟨s',h1,XO.qB h2⟩⟩
    ·exact .inr ⟨fn,hf,hp,Wf.mono h fun d Hn h1=>XO.qB h1⟩
   unfold ga at h
   split at h
   case h_1 f args he=>exact call _ _ (by rw[he];rfl) h
   case h_2 f args he=>exact call _ _ (by rw[he];rfl) h
   case h_3 f args he=>
    unfold pU at h
    split at h
    ·rename_i v hv
     obtain⟨rf,env0,Rd,l3,hR,hl,h⟩:=h
     have hy:yieldOf s.env.get e.op=some (v,args.map (ev s.env.get)):=by rw[he];simp only[yieldOf,hv]
     refine Ev.Cj hg hy l3 hR hl h (fun o ⟨o',e1,s1,iS,e2,h1,h2⟩=>?_) (Rb:=PO (uH v rf e.dst s fun s'=>XO T r s' fun s'=>Wo T l2 s' K)) (fun s1 iS ⟨o',e1,s2,iH,e2,h1,h2⟩ h3=>?_) (fun o ⟨o',e1,iH,h1,h2⟩=>?_) fun o iH ⟨o',e1,aex,h1,h2⟩ h3=>?_
     ·cases e1;subst e2;exact⟨rfl,iS,h1⟩
     ·cases e1;cases e2
      rw[h1]at h3;cases h3;exact h2
     ·cases e1;exact⟨iH,h1⟩
     ·cases e1
      rw[h1]at h3;cases h3
      exact XO.qB h2
    ·rename_i hn
     obtain⟨p,hp,h⟩:=h
     exact call p.1 p.2 (by rw[he,Oy];exact hp) h
   case h_12 a he=>
    obtain⟨v,m,since,seen,kk,es,h1,h2,h3,h4,h5,h6⟩:=h
    exact Ev.next hg he h1 h2 h3 h4 (fun k=>XO.qB (h5 k)) fun i k d e1 e2=>XO.qB (h6 i k d e1 e2)
   case h_13=>exact plain h
   all_goals (rename_i he;exact sp (by rw[he];exact h))
theorem XO.wo{l:List eV}{s:St}{K:St→Prop}(h:XO T l s K):Wo T l s K:=by
 have:=XO.qB (l2:=[]) (K:=K) (XO.mono h fun s' k=>Wo.nil k)
 rwa [av]at this
theorem XT.wt:∀ {l:List eV} {s:St} {K:List Rc→St→Prop},XT T l s K→Wt T l s K
 | [],s,K,h=>Wt.nil h
 | e::r,s,K,h=>by
  obtain⟨x,hg,ht,hf⟩:=h
  cases x with
  | false=>exact Wt.off hg (XT.wt (hf rfl))
  | true=>
   have h:=ht rfl
   have call:∀ f args,im s.env.get e.op=some (f,args)→gi T f args (eY s.env.get s.H e.op) e.dst s (fun rc s'=>XT T r s' fun rs s2=>K (rc::rs) s2) .mk→Wt T (e::r) s K:=fun f args hc ⟨fn,d,hf,hp,hw,ff,hk⟩=>
    Ev.zG hg hc hf hp hw (fun d' Hn ⟨d2,H2,he,hd⟩=>by cases he;exact hd) ff (XT.wt hk) fun rs s' ⟨Nr,s2,he,k⟩=>by cases he;exact⟨_,_,rfl,k⟩
   unfold gU at h
   split at h
   case h_1 f args he=>exact call _ _ (by rw[he];rfl) (by rw[he];exact h)
   case h_2 f args he=>
    rcases h with(h|⟨fn,d,ob,hf,hp,hw,ff,hk⟩)|⟨fn,d,v,hf,hp,hS,hv,fu,ff,hw,hr,hk⟩
    ·exact call _ _ (by rw[he];rfl) (by rw[he];exact h)
    ·exact Ev.zH hg he rfl hf hp hw (fun d' Hn ⟨d2,H2,he,hd⟩=>by cases he;exact hd) ff (XT.wt hk) fun rs s' ⟨Nr,s2,e2,k⟩=>by cases e2;rw[he];exact⟨_,_,rfl,k⟩
    ·exact Ev.zI hg he rfl hf hp hS hv fu ff hw (fun d' Hn ⟨d2,H2,he,hd⟩=>by cases he;exact hd) hr (XT.wt hk) fun rs s' ⟨Nr,s2,e2,k⟩=>by cases e2;rw[he];exact⟨_,_,rfl,k⟩
   case h_3 f args he=>obtain⟨p,hp,h⟩:=h;exact call p.1 p.2 (by rw[he];exact hp) (by rw[he];exact h)
   case h_4=>obtain⟨⟨d,δ⟩,hd,hk⟩:=h;exact Wt.op hg hd (XT.wt hk)
end
def iV:IR→IR
 | .seq a b=>.seq (iV a) (iV b)
 | .cond c a b=>.cond c (iV a) (iV b)
 | .block id live a=>.block id live (iV a)
 | .loop live a=>.loop live (iV a)
 | .fz _ a=>iV a
 | .pa _ a b=>.ops (a++b)
 | c=>c
def oq:IR→Bool
 | .seq a b=>oq a&&oq b
 | .cond _ a b=>oq a&&oq b
 | .block _ _ a=>oq a
 | .loop _ a=>oq a
 | .fz _ _=>false
 | .pa _ _ _=>false
 | _=>true
theorem l9:∀ {c:IR},oq c=true→iV c=c
 | .seq a b,h=>by simp only[oq,ah]at h;rw[iV,l9 h.1,l9 h.2]
 | .cond _ a b,h=>by simp only[oq,ah]at h;rw[iV,l9 h.1,l9 h.2]
 | .block _ _ a,h=>by rw[iV,l9 (c:=a) h]
 | .loop _ a,h=>by rw[iV,l9 (c:=a) h]
 | .fz _ _,h=>by cases h
 | .pa _ _ _,h=>by cases h
 | .skip,_ | .ops _,_ | .draw _ _,_ | .jG _ _ _,_ | .jQ _ _ _,_ | .exit _,_ | .ret,_ | .bad,_=>rfl
def jy(k:Nat):List eV→Bool
 | { dst:=some j,.. }::_=>decide (j=k)
 | _=>false
def gj(k:Nat)(S:List Nat):IR→IR
 | .ops l=>bif jy k l then .fz S (.ops l)else .ops l
 | .draw p l=>bif jy k l then .fz S (.draw p l)else .draw p l
 | .jG p l e=>bif jy k l then .fz S (.jG p l e)else .jG p l e
 | .seq a b=>.seq (gj k S a) (gj k S b)
 | .cond c a b=>.cond c (gj k S a) (gj k S b)
 | .block id live a=>.block id live (gj k S a)
 | .loop live a=>.loop live (gj k S a)
 | .fz S' a=>.fz S' (gj k S a)
 | c=>c
theorem sX(k:Nat)(S:List Nat):∀ c:IR,iV (gj k S c)=iV c
 | .ops l=>by unfold gj;cases jy k l<;>rfl
 | .draw p l=>by unfold gj;cases jy k l<;>rfl
 | .jG p l e=>by unfold gj;cases jy k l<;>rfl
 | .seq a b=>by simp only[gj,iV,sX k S a,sX k S b]
 | .cond c a b=>by simp only[gj,iV,sX k S a,sX k S b]
 | .block id live a=>by simp only[gj,iV,sX k S a]
 | .loop live a=>by simp only[gj,iV,sX k S a]
 | .fz S' a=>by simp only[gj,iV,sX k S a]
 | .skip | .jQ _ _ _ | .exit _ | .ret | .bad | .pa _ _ _=>rfl
def ky(k:Nat):List eV→List eV
 | []=>[]
 | e::r=>bif jy k [e]then []else e::ky k r
def kA(k:Nat):List eV→List eV
 | []=>[]
 | e::r=>bif jy k [e]then e::r else kA k r
def kK(k:Nat):List eV→Bool
 | []=>false
 | e::r=>jy k [e]||kK k r
theorem Jv(k:Nat):∀ l:List eV,ky k l++kA k l=l
 | []=>rfl
 | e::r=>by unfold ky kA;cases jy k [e]<;>simp[Jv k r]
def iw(k:Nat)(S:List Nat):IR→IR
 | .ops l=>bif kK k l then .pa S (ky k l) (kA k l)else .ops l
 | .seq a b=>.seq (iw k S a) (iw k S b)
 | .cond c a b=>.cond c (iw k S a) (iw k S b)
 | .block id live a=>.block id live (iw k S a)
 | .loop live a=>.loop live (iw k S a)
 | .fz S' a=>.fz S' (iw k S a)
 | c=>c
theorem sY(k:Nat)(S:List Nat):∀ c:IR,iV (iw k S c)=iV c
 | .ops l=>by unfold iw;cases kK k l<;>simp[iV,Jv]
 | .seq a b=>by simp only[iw,iV,sY k S a,sY k S b]
 | .cond c a b=>by simp only[iw,iV,sY k S a,sY k S b]
 | .block id live a=>by simp only[iw,iV,sY k S a]
 | .loop live a=>by simp only[iw,iV,sY k S a]
 | .fz S' a=>by simp only[iw,iV,sY k S a]
 | .skip | .jQ _ _ _ | .exit _ | .ret | .bad | .pa _ _ _ | .draw _ _ | .jG _ _ _=>rfl
def eE(T:fE)(live:List Nat)(a:IR)(s:St)(K:gh)(_:Tag (live,a,s,K)):Prop:=Wc T (.loop live (iV a)) s K
def u7(T:fE)(rf:Nat)(live:List Nat)(x:X)(s:St)(K:gh)(_:Tag (live,x,s,K)):Prop:=Wc T (.jQ rf live x) s K
@[irreducible] def qu(m S:List Nat):Bool:=m.all fun v => !S.contains v
theorem yM(m S:List Nat):qu m S=m.all fun v => !S.contains v:=by unfold qu;rfl
@[simp] theorem TI(S:List Nat):qu [] S=true:=by rw[yM];rfl
@[simp] theorem agD(v:Nat)(m S:List Nat):qu (v::m) S=(!decide (v∈S)&&qu m S):=by rw[yM,yM,List.all_cons,List.contains_eq_mem]
def EU:D→List Nat
 | .agg cs=>(cs.map (gx 0)).flatten
 | _=>[]
@[simp] theorem acs(cs:List D):EU (.agg cs)=(cs.map (gx 0)).flatten:=rfl
def lU(env:Env):List Nat→List Nat
 | []=>[]
 | v::r=>if v<1000 then v::lU env r else if v<2000 then gx 0 (env.get (v-1000))++lU env r else EU (env.get (v-2000))++lU env r
@[simp] theorem ae6(env:Env):lU env [] = []:=rfl
@[simp] theorem ae5(env:Env)(v:Nat)(r:List Nat):lU env (v::r)=if v<1000 then v::lU env r else if v<2000 then gx 0 (env.get (v-1000))++lU env r else EU (env.get (v-2000))++lU env r:=rfl
def XC(T:fE):IR→St→gh→Prop
 | .skip,s,K=>K (.norm s)
 | .ops l,s,K=>XO T l s fun s'=>K (.norm s')
 | .draw gJ l,s,K=>XT T l s fun rs s'=>pD gJ rs=true∧K (.norm s')
 | .jG gJ l es,s,K=>XT T l s fun rs s'=>pD gJ rs=true∧XO T es s' fun s'=>K (.norm s')
 | .seq a b,s,K=>XC T a s fun o=>match o with
  | .norm s'=>XC T b s' K
  | o=>K o
 | .cond c a b,s,K=>XB (ev s.env.get c) (XC T a s K) (XC T b s K) .mk
 | .block id live a,s,K=>XC T a s fun o=>K (jU id s.H.length live o)
 | .loop live a,s,K=>eE T live a s K .mk
 | .jQ rf live x,s,K=>u7 T rf live x s K .mk
 | .exit id,s,K=>K (.exit id s)
 | .ret,s,K=>K (.ret s)
 | .bad,_,_=>False
 | .fz S a,s,K=>qu s.marks (lU s.env S)=true∧XC T a (jh (lU s.env S) s) K
 | .pa S a b,s,K=>XO T a s fun s'=>qu s'.marks (lU s'.env S)=true∧XO T b (jh (lU s'.env S) s') fun s'=>K (.norm s')
def D0(T:fE)(b:IR)(K:gh):gh:=fun o=>match o with
 | .norm s'=>XC T b s' K
 | o=>K o
def tb(id n:Nat)(live:List Nat)(K:gh):gh:=fun o=>K (jU id n live o)
section
variable{T:fE}
theorem Wc.jh{c:IR}{s:St}{K:gh}(S:List Nat)(hm:qu s.marks S=true)(h:Wc T c (jh S s) K):Wc T c s K:=Ev.xM S (by rwa [yM]at hm) h
theorem XC.wc:∀ {c:IR} {s:St} {K:gh},XC T c s K→Wc T (iV c) s K
 | .skip,s,K,h=>Wc.skip h
 | .ops l,s,K,h=>Wc.ops (XO.wo h)
 | .draw gJ l,s,K,h=>Wc.draw (XT.wt h)
 | .jG gJ l es,s,K,h=>Wc.jG (Ev.mono (XT.wt h) fun _ ⟨rs,s',q,k⟩=>⟨rs,s',q,k.1,XO.wo k.2⟩)
 | .seq a b,s,K,h=>Wc.seq ((XC.wc (c:=a) h).mono fun o ho=>by
  cases o with
  | norm s'=>exact XC.wc (c:=b) ho
  | exit=>exact ho
  | ret=>exact ho)
 | .cond _ _ _,_,_,h=>by
  obtain⟨x,hx,ht,hf⟩:=h
  exact Wc.cond x hx (fun e=>XC.wc (ht e)) fun e=>XC.wc (hf e)
 | .block _ _ _,_,_,h=>Wc.block (XC.wc h)
 | .loop live a,s,K,h=>h
 | .jQ rf live x,s,K,h=>h
 | .exit id,s,K,h=>Wc.exit h
 | .ret,s,K,h=>Wc.ret h
 | .bad,s,K,h=>h.elim
 | .fz S a,s,K,h=>Wc.jh (lU s.env S) h.1 (XC.wc (c:=a) h.2)
 | .pa S a b,s,K,h=>Wc.ops (XO.qB (XO.mono h fun s' k=>Ev.jh (lU s'.env S) (by have:=k.1;rwa [yM]at this) (XO.wo k.2)))
def oU(ds:List D):D:=match ds with
 | [d]=>d
 | ds=>.tup ds
@[simp] theorem ais(d:D):oU [d]=d:=rfl
@[simp] theorem ait(d e:D):oU [d,e] = .tup [d,e]:=rfl
@[simp] theorem aiu(d e f:D):oU [d,e,f] = .tup [d,e,f]:=rfl
@[simp] theorem air:oU [] = .tup []:=rfl
def sg(rs:List pS)(own n:Nat)(K:D→U→Prop):gh:=fun o=>match o with
 | .norm s | .ret s=>oA (kill s.marks s.H) (fun H=>oA (oV { s with H:=H } rs) (fun ds=>K (leave own n H (oU ds)).1 (leave own n H (oU ds)).2) .mk) .mk
 | .exit _ _=>False
theorem Wf.xz(own:Nat){f:FuncId}{args:List D}{H:U}{fn:ey}{K:D→U→Prop}(c:IR)(hf:T.fn f=some fn)(hl:args.length≤fn.ntmps)(hc:iV c=fn.body)
  (h:XC T c { env:=om args,H:=H } (sg fn.results own H.length K)):Wf T f args H K:=by
 have key:∀ s:St,(oA (kill s.marks s.H) (fun H'=>oA (oV { s with H:=H' } fn.results) (fun ds=>K (leave own H.length H' (oU ds)).1 (leave own H.length H' (oU ds)).2) .mk) .mk)→∃ d H',(match kill s.marks s.H with
  | some H1=>match results fn { s with H:=H1 }with
   | some d=>some (leave own H.length H1 d)
   | none=>none
  | none=>none)=some (d,H')∧K d H':=by
  rintro s ⟨H1,h1,ds,h2,hk⟩
  rw[h1]
  refine⟨_,_,?_,hk⟩
  unfold AL.results
  dsimp only
  rw[h2]
  cases ds with
  | nil=>rfl
  | cons a l=>cases l<;>rfl
 refine Wf.call own hf hl (hc▸(XC.wc h).mono fun o ho=>?_)
 cases o with
 | norm s=>exact key s ho
 | ret s=>exact key s ho
 | exit=>exact ho.elim
theorem Wf.xo(own:Nat){f:FuncId}{args:List D}{H:U}{fn:ey}{K:D→U→Prop}(hf:T.fn f=some fn)(hl:args.length≤fn.ntmps)
  (h:XC T fn.body { env:=om args,H:=H } (sg fn.results own H.length K)) (hz:oq fn.body=true:=by rfl):Wf T f args H K:=Wf.xz own fn.body hf hl (l9 hz) h
theorem Wf.x{f:FuncId}{args:List D}{H:U}{fn:ey}{K:D→U→Prop}(hf:T.fn f=some fn)(hl:args.length≤fn.ntmps)
  (h:XC T fn.body { env:=om args,H:=H } (sg fn.results fn.own H.length K)) (hz:oq fn.body=true:=by rfl):Wf T f args H K:=Wf.xo fn.own hf hl h hz
theorem eS.is{f:FuncId}{args:List D}{dst:Option Nat}{s:St}{K:St→Prop}{fn:ey}{K0:D→U→Prop}(hf:T.fn f=some fn)(hp:fn.full=false)(h:Wf T f (args.map (eB (fun _=>none) s.H 40)) [] K0)
  (k:∀ d Hn,K0 d Hn→oA (after s dst args d Hn) K .mk):eS T f args dst s K .mk:=.inl ⟨fn,hf,hp,Wf.mono h k⟩
theorem eS.km{f:FuncId}{args:List D}{dst:Option Nat}{s:St}{K:St→Prop}{fn:ey}{K0:D→U→Prop}(hf:T.fn f=some fn)(hp:fn.full=true)(h:Wf T f args s.H K0)
  (k:∀ d H',K0 d H'→K { s with env:=put s.env dst d,H:=H' }):eS T f args dst s K .mk:=.inr ⟨fn,hf,hp,Wf.mono h k⟩
theorem eS.c{f:FuncId}{args:List D}{dst:Option Nat}{s:St}{K:St→Prop}{fn:ey}{x:D}(hf:T.fn f=some fn)(hp:fn.full=false)(h:Wf T f args [] fun d H'=>d=x∧H' = [])
  (hc:eT args=true) (hx:closed x=true) (k:K { s with env:=put s.env dst x }):eS T f args dst s K .mk:=by
 refine eS.is hf hp (K0:=fun d H'=>d=x∧H' = []) ?_ ?_
 ·have e0:args.map (eB (fun _=>none) s.H 40)=args:=by
   conv=>rhs;rw[← aQ args]
   exact ak fun d hd=>lQ (jF hc d hd)
  rw[e0];exact h
 ·rintro d Hn ⟨rfl,rfl⟩
  obtain⟨k1,k2⟩:=Ct (H:=s.H) hx
  refine⟨{ s with env:=put s.env dst d },?_,k⟩
  unfold after
  rw[if_pos hc,k1,k2]
  simp
theorem eS.r{f:FuncId}{args mB:List D}{dst:Option Nat}{s:St}{K:St→Prop}{fn:ey}{x:D}(hf:T.fn f=some fn)(hp:fn.full=false)(h:Wf T f mB [] fun d H'=>d=x∧H' = [])
  (hs:args.map (eB (fun _=>none) s.H 40)=mB) (hx:flat x=true) (jH:closed x=true) (k:K { s with env:=put s.env dst x }):eS T f args dst s K .mk:=by
 refine eS.is hf hp (K0:=fun d H'=>d=x∧H' = []) (by rw[hs];exact h) ?_
 rintro d Hn ⟨rfl,rfl⟩
 obtain⟨k1,k2⟩:=Ct (H:=s.H) jH
 refine⟨{ s with env:=put s.env dst d },?_,k⟩
 have:lN d=true:=(Ks (H:=s.H) hx).1
 unfold after
 rw[this,k1,k2]
 simp
theorem gi.c{f:FuncId}{args:List D}{R:List Fp}{dst:Option Nat}{s:St}{Q:Rc→St→Prop}{fn:ey}{x:D}(hf:T.fn f=some fn)(hp:fn.full=false)(h:Wf T f args [] fun d H'=>d=x∧H' = [])
  (hc:eT args=true) (hx:closed x=true) (k:Q ⟨R,[]⟩ { s with env:=put s.env dst x }):gi T f args R dst s Q .mk:=by
 refine⟨fn,x,hf,hp,?_,by rw[if_pos hc];exact hx,k⟩
 have e0:args.map (eB (fun _=>none) s.H 40)=args:=by
  conv=>rhs;rw[← aQ args]
  exact ak fun d hd=>lQ (jF hc d hd)
 rw[e0];exact h
theorem gi.r{f:FuncId}{args mB:List D}{R:List Fp}{dst:Option Nat}{s:St}{Q:Rc→St→Prop}{fn:ey}{x:D}(hf:T.fn f=some fn)(hp:fn.full=false)(h:Wf T f mB [] fun d H'=>d=x∧H' = [])
  (hs:args.map (eB (fun _=>none) s.H 40)=mB) (hx:flat x=true) (jH:closed x=true) (k:Q ⟨R,[]⟩ { s with env:=put s.env dst x }):gi T f args R dst s Q .mk:=
 ⟨fn,x,hf,hp,by rw[hs];exact h,by split<;>assumption,k⟩
variable{s:St}{K:gh}{a b:IR}{l:List eV}{op:fR}{k j:Nat}
@[simp ↓] theorem aaL:XC T .skip s K=K (.norm s):=(rfl)
@[simp ↓] theorem aaH:XC T (.ops l) s K=XO T l s fun s'=>K (.norm s'):=(rfl)
@[simp ↓] theorem aaB{gJ:List (Nat×Nat)}:XC T (.draw gJ l) s K=XT T l s fun rs s'=>pD gJ rs=true∧K (.norm s'):=(rfl)
@[simp ↓] theorem aaC{gJ:List (Nat×Nat)}{es:List eV}:XC T (.jG gJ l es) s K=XT T l s fun rs s'=>pD gJ rs=true∧XO T es s' fun s'=>K (.norm s'):=(rfl)
@[simp ↓] theorem aaK:XC T (.seq a b) s K=XC T a s (D0 T b K):=(rfl)
@[simp ↓] theorem aaA{c:X}:XC T (.cond c a b) s K=XB (ev s.env.get c) (XC T a s K) (XC T b s K) .mk:=(rfl)
@[simp ↓] theorem aaz{id:Nat}{live:List Nat}:XC T (.block id live a) s K=XC T a s (tb id s.H.length live K):=(rfl)
@[simp ↓] theorem aaG{live:List Nat}:XC T (.loop live a) s K=eE T live a s K .mk:=(rfl)
@[simp ↓] theorem aaI{rf:Nat}{live:List Nat}{x:X}:XC T (.jQ rf live x) s K=u7 T rf live x s K .mk:=(rfl)
@[simp ↓] theorem aaE{S:List Nat}:XC T (.fz S a) s K=(qu s.marks (lU s.env S)=true∧XC T a (jh (lU s.env S) s) K):=(rfl)
@[simp ↓] theorem aaF{S:List Nat}{x y:List eV}:XC T (.pa S x y) s K=XO T x s fun s'=>qu s'.marks (lU s'.env S)=true∧XO T y (jh (lU s'.env S) s') fun s'=>K (.norm s'):=(rfl)
@[simp ↓] theorem aaD{id:Nat}:XC T (.exit id) s K=K (.exit id s):=(rfl)
@[simp ↓] theorem aaJ:XC T .ret s K=K (.ret s):=(rfl)
@[simp ↓] theorem agR:D0 T b K (.norm s)=XC T b s K:=(rfl)
@[simp ↓] theorem agQ{id:Nat}:D0 T b K (.exit id s)=K (.exit id s):=(rfl)
@[simp ↓] theorem agS:D0 T b K (.ret s)=K (.ret s):=(rfl)
@[simp ↓] theorem Oj{id n:Nat}{live:List Nat}:tb id n live K (.norm s)=K (.norm (cut n live s)):=(rfl)
@[simp ↓] theorem ac4{id n:Nat}{live:List Nat}:tb id n live K (.ret s)=K (.ret s):=(rfl)
@[simp ↓] theorem Ol{id n:Nat}{live:List Nat}:tb id n live K (.exit id s)=K (.norm (cut n live s)):=by simp[tb,jU]
@[simp ↓] theorem ac3{id sK n:Nat}{live:List Nat}(h:sK≠id):tb id n live K (.exit sK s)=K (.exit sK s):=by simp[tb,jU,h]
@[simp ↓] theorem aeL{rs:List pS}{own n:Nat}{K:D→U→Prop}:sg rs own n K (.ret s)=oA (kill s.marks s.H) (fun H=>oA (oV { s with H:=H } rs) (fun ds=>K (leave own n H (oU ds)).1 (leave own n H (oU ds)).2) .mk) .mk:=(rfl)
@[simp ↓] theorem aeK{rs:List pS}{own n:Nat}{K:D→U→Prop}:sg rs own n K (.norm s)=oA (kill s.marks s.H) (fun H=>oA (oV { s with H:=H } rs) (fun ds=>K (leave own n H (oU ds)).1 (leave own n H (oU ds)).2) .mk) .mk:=(rfl)
@[simp ↓] theorem aaS{K:St→Prop}:XO T [] s K=K s:=(rfl)
@[simp ↓] theorem aaT{K:St→Prop}:XO T (o k op::l) s K=ga T op (some k) s fun s'=>XO T l s' K:=by
 simp[XO,guardOf]
@[simp ↓] theorem aaV{K:St→Prop}:XO T (u op::l) s K=ga T op none s fun s'=>XO T l s' K:=by
 simp[XO,guardOf]
@[simp ↓] theorem aaU{g:Bool}{K:St→Prop}:XO T (og j g k op::l) s K=XG (guardOf s.env.get (some (j,g))) (ga T op (some k) s fun s'=>XO T l s' K) (XO T l { s with env:=(k,.val undef)::s.env } K) .mk:=(rfl)
@[simp ↓] theorem aaW{g:Bool}{K:St→Prop}:XO T (ug j g op::l) s K=XG (guardOf s.env.get (some (j,g))) (ga T op none s fun s'=>XO T l s' K) (XO T l s K) .mk:=(rfl)
@[simp ↓] theorem abK{Q:List Rc→St→Prop}:XT T [] s Q=Q [] s:=(rfl)
@[simp ↓] theorem abL{Q:List Rc→St→Prop}:XT T (o k op::l) s Q=gU T op (some k) s fun rc s'=>XT T l s' fun rs s2=>Q (rc::rs) s2:=by
 simp[XT,guardOf]
@[simp ↓] theorem abN{Q:List Rc→St→Prop}:XT T (u op::l) s Q=gU T op none s fun rc s'=>XT T l s' fun rs s2=>Q (rc::rs) s2:=by
 simp[XT,guardOf]
@[simp ↓] theorem abM{g:Bool}{Q:List Rc→St→Prop}:XT T (og j g k op::l) s Q=XG (guardOf s.env.get (some (j,g))) (gU T op (some k) s fun rc s'=>XT T l s' fun rs s2=>Q (rc::rs) s2) (XT T l { s with env:=(k,.val undef)::s.env } fun rs s2=>Q (⟨[],[]⟩::rs) s2) .mk:=(rfl)
@[simp ↓] theorem abO{g:Bool}{Q:List Rc→St→Prop}:XT T (ug j g op::l) s Q=XG (guardOf s.env.get (some (j,g))) (gU T op none s fun rc s'=>XT T l s' fun rs s2=>Q (rc::rs) s2) (XT T l s fun rs s2=>Q (⟨[],[]⟩::rs) s2) .mk:=(rfl)
@[simp ↓] theorem afW{dst:Option Nat}{K:St→Prop}{d:D}{δ:Dl}:kp s dst K (d,δ)=K { s with env:=put s.env dst d,H:=δ.app s.H (Al.last s.H) }:=(rfl)
@[simp ↓] theorem afX{dst:Option Nat}{R:List Fp}{Q:Rc→St→Prop}{d:D}{δ:Dl}:kt s dst R Q (d,δ)=Q ⟨R,gP s.H.length δ⟩ { s with env:=put s.env dst d,H:=δ.app s.H (Al.last s.H) }:=(rfl)
section
variable{dst:Option Nat}{K:St→Prop}{Q:Rc→St→Prop}
@[simp ↓] theorem abx{x:X}:ga T (.mv x) dst s K=oA (eX s.env.get s.H s.H.length (.mv x)) (kp s dst K) .mk:=(rfl)
@[simp ↓] theorem acj{x:X}:gU T (.mv x) dst s Q=oA (eX s.env.get s.H s.H.length (.mv x)) (kt s dst (eY s.env.get s.H (.mv x)) Q) .mk:=(rfl)
@[simp ↓] theorem abC{c a b:X}:ga T (.pick c a b) dst s K=oA (eX s.env.get s.H s.H.length (.pick c a b)) (kp s dst K) .mk:=(rfl)
@[simp ↓] theorem acm{c a b:X}:gU T (.pick c a b) dst s Q=oA (eX s.env.get s.H s.H.length (.pick c a b)) (kt s dst (eY s.env.get s.H (.pick c a b)) Q) .mk:=(rfl)
@[simp ↓] theorem aa2{t:TypeId}{x:X}:ga T (.box t x) dst s K=oA (eX s.env.get s.H s.H.length (.box t x)) (kp s dst K) .mk:=(rfl)
@[simp ↓] theorem abT{t:TypeId}{x:X}:gU T (.box t x) dst s Q=oA (eX s.env.get s.H s.H.length (.box t x)) (kt s dst (eY s.env.get s.H (.box t x)) Q) .mk:=(rfl)
@[simp ↓] theorem aaX{t:TypeId}{z:List D}:ga T (.alloc t z) dst s K=oA (eX s.env.get s.H s.H.length (.alloc t z)) (kp s dst K) .mk:=(rfl)
@[simp ↓] theorem abP{t:TypeId}{z:List D}:gU T (.alloc t z) dst s Q=oA (eX s.env.get s.H s.H.length (.alloc t z)) (kt s dst (eY s.env.get s.H (.alloc t z)) Q) .mk:=(rfl)
@[simp ↓] theorem aa3{z:List D}{ps:List (Nat×Nat×X)}:ga T (.build z ps) dst s K=oA (eX s.env.get s.H s.H.length (.build z ps)) (kp s dst K) .mk:=(rfl)
@[simp ↓] theorem abU{z:List D}{ps:List (Nat×Nat×X)}:gU T (.build z ps) dst s Q=oA (eX s.env.get s.H s.H.length (.build z ps)) (kt s dst (eY s.env.get s.H (.build z ps)) Q) .mk:=(rfl)
@[simp ↓] theorem aa4{t sz:Nat}{z:List D}{n:Nat}{ps:List (Nat×X)}:ga T (.buildSl t sz z n ps) dst s K=oA (eX s.env.get s.H s.H.length (.buildSl t sz z n ps)) (kp s dst K) .mk:=(rfl)
@[simp ↓] theorem abV{t sz:Nat}{z:List D}{n:Nat}{ps:List (Nat×X)}:gU T (.buildSl t sz z n ps) dst s Q=oA (eX s.env.get s.H s.H.length (.buildSl t sz z n ps)) (kt s dst (eY s.env.get s.H (.buildSl t sz z n ps)) Q) .mk:=(rfl)
@[simp ↓] theorem abn{x:X}:ga T (.ld1 x) dst s K=oA (eX s.env.get s.H s.H.length (.ld1 x)) (kp s dst K) .mk:=(rfl)
@[simp ↓] theorem ab9{x:X}:gU T (.ld1 x) dst s Q=oA (eX s.env.get s.H s.H.length (.ld1 x)) (kt s dst (eY s.env.get s.H (.ld1 x)) Q) .mk:=(rfl)
@[simp ↓] theorem abo{n:Nat}{x:X}:ga T (.ldN n x) dst s K=oA (eX s.env.get s.H s.H.length (.ldN n x)) (kp s dst K) .mk:=(rfl)
@[simp ↓] theorem aca{n:Nat}{x:X}:gU T (.ldN n x) dst s Q=oA (eX s.env.get s.H s.H.length (.ldN n x)) (kt s dst (eY s.env.get s.H (.ldN n x)) Q) .mk:=(rfl)
@[simp ↓] theorem abH{a x:X}:ga T (.st1 a x) dst s K=oA (eX s.env.get s.H s.H.length (.st1 a x)) (kp s dst K) .mk:=(rfl)
@[simp ↓] theorem acp{a x:X}:gU T (.st1 a x) dst s Q=oA (eX s.env.get s.H s.H.length (.st1 a x)) (kt s dst (eY s.env.get s.H (.st1 a x)) Q) .mk:=(rfl)
@[simp ↓] theorem abI{n:Nat}{a x:X}:ga T (.stN n a x) dst s K=oA (eX s.env.get s.H s.H.length (.stN n a x)) (kp s dst K) .mk:=(rfl)
@[simp ↓] theorem acq{n:Nat}{a x:X}:gU T (.stN n a x) dst s Q=oA (eX s.env.get s.H s.H.length (.stN n a x)) (kt s dst (eY s.env.get s.H (.stN n a x)) Q) .mk:=(rfl)
@[simp ↓] theorem abB{x:X}:ga T (.nilck x) dst s K=oA (eX s.env.get s.H s.H.length (.nilck x)) (kp s dst K) .mk:=(rfl)
@[simp ↓] theorem ack{x:X}:gU T (.nilck x) dst s Q=oA (eX s.env.get s.H s.H.length (.nilck x)) (kt s dst (eY s.env.get s.H (.nilck x)) Q) .mk:=(rfl)
@[simp ↓] theorem aa0{op:BinOp}{x y:X}:ga T (.arith op x y) dst s K=oA (eX s.env.get s.H s.H.length (.arith op x y)) (kp s dst K) .mk:=(rfl)
@[simp ↓] theorem abR{op:BinOp}{x y:X}:gU T (.arith op x y) dst s Q=oA (eX s.env.get s.H s.H.length (.arith op x y)) (kt s dst (eY s.env.get s.H (.arith op x y)) Q) .mk:=(rfl)
@[simp ↓] theorem abf{gK:Bool}{ls:List lB}{neg:Bool}{x y:X}:ga T (.eqS gK ls neg x y) dst s K=oA (eX s.env.get s.H s.H.length (.eqS gK ls neg x y)) (kp s dst K) .mk:=(rfl)
@[simp ↓] theorem ab1{gK:Bool}{ls:List lB}{neg:Bool}{x y:X}:gU T (.eqS gK ls neg x y) dst s Q=oA (eX s.env.get s.H s.H.length (.eqS gK ls neg x y)) (kt s dst (eY s.env.get s.H (.eqS gK ls neg x y)) Q) .mk:=(rfl)
@[simp ↓] theorem abJ{op:UnOp}{x:X}:ga T (.un op x) dst s K=oA (eX s.env.get s.H s.H.length (.un op x)) (kp s dst K) .mk:=(rfl)
@[simp ↓] theorem acr{op:UnOp}{x:X}:gU T (.un op x) dst s Q=oA (eX s.env.get s.H s.H.length (.un op x)) (kt s dst (eY s.env.get s.H (.un op x)) Q) .mk:=(rfl)
@[simp ↓] theorem abb{k:IntKind}{x:X}:ga T (.conv k x) dst s K=oA (eX s.env.get s.H s.H.length (.conv k x)) (kp s dst K) .mk:=(rfl)
@[simp ↓] theorem abZ{k:IntKind}{x:X}:gU T (.conv k x) dst s Q=oA (eX s.env.get s.H s.H.length (.conv k x)) (kt s dst (eY s.env.get s.H (.conv k x)) Q) .mk:=(rfl)
@[simp ↓] theorem aa1{x:X}:ga T (.b2s x) dst s K=oA (eX s.env.get s.H s.H.length (.b2s x)) (kp s dst K) .mk:=(rfl)
@[simp ↓] theorem abS{x:X}:gU T (.b2s x) dst s Q=oA (eX s.env.get s.H s.H.length (.b2s x)) (kt s dst (eY s.env.get s.H (.b2s x)) Q) .mk:=(rfl)
@[simp ↓] theorem abu{fn:Fn}{first captured:List X}:ga T (.mkfn fn first captured) dst s K=oA (eX s.env.get s.H s.H.length (.mkfn fn first captured)) (kp s dst K) .mk:=(rfl)
@[simp ↓] theorem acg{fn:Fn}{first captured:List X}:gU T (.mkfn fn first captured) dst s Q=oA (eX s.env.get s.H s.H.length (.mkfn fn first captured)) (kt s dst (eY s.env.get s.H (.mkfn fn first captured)) Q) .mk:=(rfl)
@[simp ↓] theorem abv{kk:KK}:ga T (.mkmap kk) dst s K=oA (eX s.env.get s.H s.H.length (.mkmap kk)) (kp s dst K) .mk:=(rfl)
@[simp ↓] theorem ach{kk:KK}:gU T (.mkmap kk) dst s Q=oA (eX s.env.get s.H s.H.length (.mkmap kk)) (kt s dst (eY s.env.get s.H (.mkmap kk)) Q) .mk:=(rfl)
@[simp ↓] theorem abw{t sz bytes:Nat}{z:List D}{l c:X}:ga T (.mksl t sz bytes z l c) dst s K=oA (eX s.env.get s.H s.H.length (.mksl t sz bytes z l c)) (kp s dst K) .mk:=(rfl)
@[simp ↓] theorem aci{t sz bytes:Nat}{z:List D}{l c:X}:gU T (.mksl t sz bytes z l c) dst s Q=oA (eX s.env.get s.H s.H.length (.mksl t sz bytes z l c)) (kt s dst (eY s.env.get s.H (.mksl t sz bytes z l c)) Q) .mk:=(rfl)
@[simp ↓] theorem abF{sz:Nat}{x:X}{lo hi:Option X}:ga T (.slc sz x lo hi) dst s K=oA (eX s.env.get s.H s.H.length (.slc sz x lo hi)) (kp s dst K) .mk:=(rfl)
@[simp ↓] theorem acn{sz:Nat}{x:X}{lo hi:Option X}:gU T (.slc sz x lo hi) dst s Q=oA (eX s.env.get s.H s.H.length (.slc sz x lo hi)) (kt s dst (eY s.env.get s.H (.slc sz x lo hi)) Q) .mk:=(rfl)
@[simp ↓] theorem abG{x:X}{lo hi:Option X}:ga T (.slcS x lo hi) dst s K=oA (eX s.env.get s.H s.H.length (.slcS x lo hi)) (kp s dst K) .mk:=(rfl)
@[simp ↓] theorem aco{x:X}{lo hi:Option X}:gU T (.slcS x lo hi) dst s Q=oA (eX s.env.get s.H s.H.length (.slcS x lo hi)) (kt s dst (eY s.env.get s.H (.slcS x lo hi)) Q) .mk:=(rfl)
@[simp ↓] theorem abi{off:Nat}{x:X}:ga T (.fieldA off x) dst s K=oA (eX s.env.get s.H s.H.length (.fieldA off x)) (kp s dst K) .mk:=(rfl)
@[simp ↓] theorem ab4{off:Nat}{x:X}:gU T (.fieldA off x) dst s Q=oA (eX s.env.get s.H s.H.length (.fieldA off x)) (kt s dst (eY s.env.get s.H (.fieldA off x)) Q) .mk:=(rfl)
@[simp ↓] theorem abh{off n:Nat}{gK:Bool}{x:X}:ga T (.field off n gK x) dst s K=oA (eX s.env.get s.H s.H.length (.field off n gK x)) (kp s dst K) .mk:=(rfl)
@[simp ↓] theorem ab3{off n:Nat}{gK:Bool}{x:X}:gU T (.field off n gK x) dst s Q=oA (eX s.env.get s.H s.H.length (.field off n gK x)) (kt s dst (eY s.env.get s.H (.field off n gK x)) Q) .mk:=(rfl)
@[simp ↓] theorem abk{sz:Nat}{x i:X}:ga T (.idxA sz x i) dst s K=oA (eX s.env.get s.H s.H.length (.idxA sz x i)) (kp s dst K) .mk:=(rfl)
@[simp ↓] theorem ab6{sz:Nat}{x i:X}:gU T (.idxA sz x i) dst s Q=oA (eX s.env.get s.H s.H.length (.idxA sz x i)) (kt s dst (eY s.env.get s.H (.idxA sz x i)) Q) .mk:=(rfl)
@[simp ↓] theorem abl{sz n:Nat}{x i:X}:ga T (.idxArr sz n x i) dst s K=oA (eX s.env.get s.H s.H.length (.idxArr sz n x i)) (kp s dst K) .mk:=(rfl)
@[simp ↓] theorem ab7{sz n:Nat}{x i:X}:gU T (.idxArr sz n x i) dst s Q=oA (eX s.env.get s.H s.H.length (.idxArr sz n x i)) (kt s dst (eY s.env.get s.H (.idxArr sz n x i)) Q) .mk:=(rfl)
@[simp ↓] theorem abj{sz n:Nat}{gK:Bool}{x i:X}:ga T (.idx sz n gK x i) dst s K=oA (eX s.env.get s.H s.H.length (.idx sz n gK x i)) (kp s dst K) .mk:=(rfl)
@[simp ↓] theorem ab5{sz n:Nat}{gK:Bool}{x i:X}:gU T (.idx sz n gK x i) dst s Q=oA (eX s.env.get s.H s.H.length (.idx sz n gK x i)) (kt s dst (eY s.env.get s.H (.idx sz n gK x i)) Q) .mk:=(rfl)
@[simp ↓] theorem abm{x i:X}:ga T (.idxStr x i) dst s K=oA (eX s.env.get s.H s.H.length (.idxStr x i)) (kp s dst K) .mk:=(rfl)
@[simp ↓] theorem ab8{x i:X}:gU T (.idxStr x i) dst s Q=oA (eX s.env.get s.H s.H.length (.idxStr x i)) (kt s dst (eY s.env.get s.H (.idxStr x i)) Q) .mk:=(rfl)
@[simp ↓] theorem abq{kk:KK}{z:D}{ok:Bool}{m k:X}:ga T (.lookup kk z ok m k) dst s K=oA (eX s.env.get s.H s.H.length (.lookup kk z ok m k)) (kp s dst K) .mk:=(rfl)
@[simp ↓] theorem acd{kk:KK}{z:D}{ok:Bool}{m k:X}:gU T (.lookup kk z ok m k) dst s Q=oA (eX s.env.get s.H s.H.length (.lookup kk z ok m k)) (kt s dst (eY s.env.get s.H (.lookup kk z ok m k)) Q) .mk:=(rfl)
@[simp ↓] theorem abr{kk:KK}{m k v:X}:ga T (.mapUpd kk m k v) dst s K=oA (eX s.env.get s.H s.H.length (.mapUpd kk m k v)) (kp s dst K) .mk:=(rfl)
@[simp ↓] theorem ace{kk:KK}{m k v:X}:gU T (.mapUpd kk m k v) dst s Q=oA (eX s.env.get s.H s.H.length (.mapUpd kk m k v)) (kt s dst (eY s.env.get s.H (.mapUpd kk m k v)) Q) .mk:=(rfl)
@[simp ↓] theorem abg{x:X}{i:Nat}:ga T (.ext x i) dst s K=oA (eX s.env.get s.H s.H.length (.ext x i)) (kp s dst K) .mk:=(rfl)
@[simp ↓] theorem ab2{x:X}{i:Nat}:gU T (.ext x i) dst s Q=oA (eX s.env.get s.H s.H.length (.ext x i)) (kt s dst (eY s.env.get s.H (.ext x i)) Q) .mk:=(rfl)
@[simp ↓] theorem aa5{f:FuncId}{args:List X}:ga T (.call f args) dst s K=eS T f (args.map (ev s.env.get)) dst s K .mk:=(rfl)
@[simp ↓] theorem abW{f:FuncId}{args:List X}:gU T (.call f args) dst s Q=gi T f (args.map (ev s.env.get)) (eY s.env.get s.H (.call f args)) dst s Q .mk:=(rfl)
@[simp ↓] theorem aa6{f:FuncId}{args:List X}:ga T (.callN f args) dst s K=eS T f (args.map (ev s.env.get)) dst s K .mk:=(rfl)
@[simp ↓] theorem abX{f:FuncId}{args:List X}:gU T (.callN f args) dst s Q=o3 T f (args.map (ev s.env.get)) (eY s.env.get s.H (.callN f args)) dst s Q .mk:=(rfl)
@[simp ↓] theorem aa7{f:X}{args:List X}:ga T (.callv f args) dst s K=pU T (ev s.env.get f) (args.map (ev s.env.get)) dst s K .mk:=(rfl)
@[simp] theorem aaM{k:FuncId}{first cap args:List D}:pU T (.fn (.func k) first cap) args dst s K .mk=eS T k (first++args++cap) dst s K .mk:=by
 show oA (some (k,first++args++cap)) (fun p=>eS T p.1 p.2 dst s K .mk) .mk=_
 simp only[uB]
@[simp] theorem aaN{v:Nat}{args:List D}:pU T (.gv v) args dst s K .mk=nQ T v args dst s K .mk:=(rfl)
@[simp ↓] theorem abY{f:X}{args:List X}:gU T (.callv f args) dst s Q=oA (im s.env.get (.callv f args)) (fun p=>gi T p.1 p.2 (eY s.env.get s.H (.callv f args)) dst s Q .mk) .mk:=(rfl)
@[simp ↓] theorem aaY{t sz bytes:Nat}{x y:X}:ga T (.app t sz bytes x y) dst s K=oA (eX s.env.get s.H s.H.length (.app t sz bytes x y)) (kp s dst K) .mk:=(rfl)
@[simp ↓] theorem abQ{t sz bytes:Nat}{x y:X}:gU T (.app t sz bytes x y) dst s Q=oA (eX s.env.get s.H s.H.length (.app t sz bytes x y)) (kt s dst (eY s.env.get s.H (.app t sz bytes x y)) Q) .mk:=(rfl)
@[simp ↓] theorem abd{sz:Nat}{x y:X}:ga T (.copy sz x y) dst s K=oA (eX s.env.get s.H s.H.length (.copy sz x y)) (kp s dst K) .mk:=(rfl)
@[simp ↓] theorem ab0{sz:Nat}{x y:X}:gU T (.copy sz x y) dst s Q=oA (eX s.env.get s.H s.H.length (.copy sz x y)) (kt s dst (eY s.env.get s.H (.copy sz x y)) Q) .mk:=(rfl)
@[simp ↓] theorem abp{k:s7}{x:X}:ga T (.len k x) dst s K=oA (eX s.env.get s.H s.H.length (.len k x)) (kp s dst K) .mk:=(rfl)
@[simp ↓] theorem acb{k:s7}{x:X}:gU T (.len k x) dst s Q=oA (eX s.env.get s.H s.H.length (.len k x)) (kt s dst (eY s.env.get s.H (.len k x)) Q) .mk:=(rfl)
@[simp ↓] theorem abt{isMax:Bool}{xs:List X}:ga T (.minmax isMax xs) dst s K=oA (eX s.env.get s.H s.H.length (.minmax isMax xs)) (kp s dst K) .mk:=(rfl)
@[simp ↓] theorem acf{isMax:Bool}{xs:List X}:gU T (.minmax isMax xs) dst s Q=oA (eX s.env.get s.H s.H.length (.minmax isMax xs)) (kt s dst (eY s.env.get s.H (.minmax isMax xs)) Q) .mk:=(rfl)
@[simp ↓] theorem abA{neg:Bool}{x:X}:ga T (.nilS neg x) dst s K=oA (jR s.env.get s.H s.H.length (.nilS neg x)) (kp s dst K) .mk:=(rfl)
@[simp ↓] theorem aa8{x:X}:ga T (.capE x) dst s K=oA (jR s.env.get s.H s.H.length (.capE x)) (kp s dst K) .mk:=(rfl)
@[simp ↓] theorem aaZ{t sz bytes:Nat}{z:List D}{x n:X}:ga T (.appZ t sz bytes z x n) dst s K=oA (jR s.env.get s.H s.H.length (.appZ t sz bytes z x n)) (kp s dst K) .mk:=(rfl)
@[simp ↓] theorem aa9{sz:Nat}{z:List D}{x:X}:ga T (.clr sz z x) dst s K=oA (jR s.env.get s.H s.H.length (.clr sz z x)) (kp s dst K) .mk:=(rfl)
@[simp ↓] theorem abE{x:X}:ga T (.rangeS x) dst s K=oA (jR s.env.get s.H s.H.length (.rangeS x)) (kp s dst K) .mk:=(rfl)
@[simp ↓] theorem abz{x:X}:ga T (.nextS x) dst s K=oA (jR s.env.get s.H s.H.length (.nextS x)) (kp s dst K) .mk:=(rfl)
@[simp ↓] theorem abD{x:X}:ga T (.rangeM x) dst s K=oA (jR s.env.get s.H s.H.length (.rangeM x)) (kp s dst K) .mk:=(rfl)
@[simp ↓] theorem aby{x:X}:ga T (.nextM x) dst s K=u6 (ev s.env.get x) dst s K .mk:=(rfl)
@[simp ↓] theorem abe{x:X}:ga T (.entry x) dst s K=oA (jR s.env.get s.H s.H.length (.entry x)) (kp s dst K) .mk:=(rfl)
end
end
def uo(n:Nat)(live keys:List Nat)(J:Env→U→List Nat→Bool→Prop)(K:gh):gh:=fun o=>match o with
 | .norm s=>J (forget keys (cut n live s).env) (cut n live s).H (cut n live s).marks (cut n live s).fM
 | o=>K o
@[simp ↓] theorem TE{n:Nat}{live keys:List Nat}{J:Env→U→List Nat→Bool→Prop}{K:gh}{s:St}:uo n live keys J K (.norm s)=J (forget keys (cut n live s).env) (cut n live s).H (cut n live s).marks (cut n live s).fM:=(rfl)
@[simp ↓] theorem agw{n:Nat}{live keys:List Nat}{J:Env→U→List Nat→Bool→Prop}{K:gh}{id:Nat}{s:St}:uo n live keys J K (.exit id s)=K (.exit id s):=(rfl)
@[simp ↓] theorem agx{n:Nat}{live keys:List Nat}{J:Env→U→List Nat→Bool→Prop}{K:gh}{s:St}:uo n live keys J K (.ret s)=K (.ret s):=(rfl)
theorem eE.i{T:fE}{live:List Nat}{a:IR}{s:St}{K:gh}{α:Type}(keys:List Nat)(tV:(keys.all fun k=>live.contains k)=true)(E:α→Env)(Hp:α→U)(P:α→Prop)(μ:α→Nat)(x0:α)
  (h0:P x0) (hE:forget keys s.env=E x0) (hH:s.H=Hp x0)
  (h:∀ x,P x→XC T a { env:=E x,H:=Hp x,marks:=s.marks,fM:=s.fM } (uo s.H.length live keys (fun e H m r=>∃ x',e=E x'∧H=Hp x'∧m=s.marks∧r=s.fM∧μ x'<μ x∧P x') K)):eE T live a s K .mk:=by
 refine Wc.loop (fun m s'=>∃ x,P x∧m=μ x∧({ s' with env:=forget keys s'.env }:St) = { env:=E x,H:=Hp x,marks:=s.marks,fM:=s.fM }) (μ x0) ⟨x0,h0,rfl,?_⟩ ?_
 ·dsimp only
  rw[P7 tV,hE]
  rw[← hH]
 ·rintro m s' ⟨x,hP,rfl,he⟩
  refine Ev.CW keys ?_
  rw[he]
  refine(XC.wc (h x hP)).mono fun o ho=>?_
  cases o with
  | norm zu=>
   obtain⟨x',h3,h4,h5,h6,h2,h1⟩:=ho
   refine⟨μ x',h2,x',h1,rfl,?_⟩
   rw[h3]
   generalize cut s.H.length live zu=q at *
   cases q
   simp_all
  | exit=>exact ho
  | ret=>exact ho
theorem eE.j{T:fE}{live:List Nat}{a:IR}{s:St}{K:gh}{α:Type}(x0:α)(E:α→Env)(Hp:α→U)(P:α→Prop)(μ:α→Nat)
  (h0:P x0) (hE:forget ((E x0).map (·.1)) s.env=E x0) (hH:s.H=Hp x0) (tV:(((E x0).map (·.1)).all fun k=>live.contains k)=true)
  (h:∀ x,P x→XC T a { env:=E x,H:=Hp x,marks:=s.marks,fM:=s.fM } (uo s.H.length live ((E x0).map (·.1)) (fun e H m r=>∃ x',e=E x'∧H=Hp x'∧m=s.marks∧r=s.fM∧μ x'<μ x∧P x') K)):eE T live a s K .mk:=
 eE.i ((E x0).map (·.1)) tV E Hp P μ x0 h0 hE hH h
@[simp] theorem aes{n:Nat}{live:List Nat}{env:Env}{H:U}{m:List Nat}{r:Bool}(h:H.length≤n):cut n live { env:=env,H:=H,marks:=m,fM:=r } = { env:=forget live env,H:=H,marks:=m,fM:=r }:=Fi h
def Is(x:D):D→U→Prop:=fun d Hn=>d=x∧Hn = []
@[simp] theorem aan(x d:D)(H:U):Is x d H=(d=x∧H = []):=rfl
@[simp] theorem ah0(x:Bool)(a b:D):uE (.b x) a b=some (cond x a b):=by cases x<;>rfl
@[simp] theorem ahe(c:Bool)(a b d e:D)(P:D→Prop):oA (uE (bif c then a else b) d e) P .mk=X2 c (oA (uE a d e) P .mk) (oA (uE b d e) P .mk) .mk:=by cases c<;>simp
@[simp] theorem Tm{n:Nat}{H:U}{d:D}(h:H.length≤n)(own:Nat):leave own n H d=(d,H):=by
 unfold leave;rw[if_pos h]
section
variable{P:D→Prop}{a b:Int}
@[simp] theorem agZ:oA (ic .add .i64 a b) P .mk=(kE (a+b)∧P (.i (a+b))):=by simp only[ic,if_true];rw[v8,uB]
@[simp] theorem ahj:oA (ic .sub .i64 a b) P .mk=(kE (a-b)∧P (.i (a-b))):=by simp only[ic,if_true];rw[v8,uB]
@[simp] theorem ahd:oA (ic .mul .i64 a b) P .mk=(kE (a*b)∧P (.i (a*b))):=by simp only[ic,if_true];rw[v8,uB]
end
def wi(a b:Int):Int:=IntKind.i64.wrap (a.tdiv b)
def eM(a b:Int):Int:=a.tmod b
theorem mQ{n:Int}(h:kE n):IntKind.i64.wrap n=n:=by
 unfold kE at h
 simp only[IntKind.wrap,IntKind.bits,IntKind.signed]
 simp
 omega
theorem wj{a b:Int}(h0:0≤a)(h1:a≤9223372036854775807)(hb:0<b):wi a b=a / b:=by
 unfold wi
 rw[Int.tdiv_eq_ediv_of_nonneg h0,mQ]
 have h2:0≤a / b:=Int.ediv_nonneg h0 (by omega)
 have h3:a / b≤a:=Int.ediv_le_self b h0
 exact⟨by omega,by omega⟩
theorem jk{a b:Int}(h0:0≤a):eM a b=a % b:=Int.tmod_eq_emod_of_nonneg h0
section
variable{P:D→Prop}{a b:Int}{t:Tag P}
@[simp] theorem ahf:oA (ic .quo .i64 a b) P t=(b≠0∧P (.i (wi a b))):=by
 cases t
 simp only[ic]
 by_cases h:b=0<;>simp[h,wi]
@[simp] theorem ahh:oA (ic .rem .i64 a b) P t=(b≠0∧P (.i (eM a b))):=by
 cases t
 simp only[ic]
 by_cases h:b=0<;>simp[h,eM]
end
@[simp] theorem afq(n:Int):kE n=(-9223372036854775808≤n∧n≤9223372036854775807):=rfl
def gt{α:Type}[Inhabited α](l:List α)(n:Int):α:=l.getD n.toNat default
theorem eI{α:Type}[Inhabited α]{l:List α}{n:Int}(h0:0≤n)(h:n<l.length):gt l n∈l:=by
 unfold gt
 rw[List.getD_eq_getElem?_getD,List.getElem?_eq_getElem (by omega),aR]
 exact bz _
theorem mc{α:Type}[Inhabited α]{l:List α}{n:Int}(h0:0≤n)(h:n<l.length):gt l n=l[n.toNat]:=by
 unfold gt
 rw[List.getD_eq_getElem?_getD,List.getElem?_eq_getElem (by omega),aR]
theorem C2{α:Type}[Inhabited α]{l:List α}{n:Nat}(h:n<l.length):gt l n=l[n]:=mc (by omega) (by omega)
theorem gg{α:Type}[Inhabited α]{l:List α}{n:Int}(h0:0≤n)(h:n<l.length):l.take (n+1).toNat=l.take n.toNat ++ [gt l n]:=by
 rw[mc h0 h,← List.take_succ_eq_append_getElem (by omega)]
 congr 1;omega
theorem kI{α:Type}[Inhabited α]{l:List α}{n:Int}(h0:0≤n)(h:n<l.length):l.drop n.toNat=gt l n::l.drop (n.toNat+1):=by
 rw[mc h0 h];exact bU (by omega)
theorem oj{α:Type}[Inhabited α]{l:List α}{x:α}:x∈l↔∃ n:Int,0≤n∧n<l.length∧gt l n=x:=by
 constructor
 ·intro h
  obtain⟨i,hi,e⟩:=List.getElem_of_mem h
  exact⟨i,by omega,by omega,by rw[C2 hi,e]⟩
 ·rintro⟨n,h0,h1,rfl⟩
  exact eI h0 h1
theorem iD{α:Type}{l:List α}{n:Int}(h:(l.length:Int)≤n):l.take n.toNat=l:=aG (by omega)
section
variable{α:Type}[Inhabited α]{sz:Nat}{f:α→List D}{P:D→Prop}{k:IntKind}
theorem rv{l:List α}{n:Int}:oA (ly sz (.sl sz (l.map f)) (.val (.int k n))) P .mk=((0≤n∧n<l.length)∧P (.eF (f (gt l n)))):=by
 simp only[ly,List.length_map,true_and,v8,uB]
 refine propext ⟨fun⟨h,hp⟩=>⟨h,?_⟩,fun⟨h,hp⟩=>⟨h,?_⟩⟩
 ·rw[List.getD_eq_getElem?_getD,ar,List.getElem?_eq_getElem (by omega),a8,aR]at hp
  unfold gt
  rw[List.getD_eq_getElem?_getD,List.getElem?_eq_getElem (by omega),aR]
  exact hp
 ·rw[List.getD_eq_getElem?_getD,ar,List.getElem?_eq_getElem (by omega),a8,aR]
  unfold gt at hp
  rw[List.getD_eq_getElem?_getD,List.getElem?_eq_getElem (by omega),aR]at hp
  exact hp
@[simp] theorem ag3{l:List α}{n:Int}:oA (ly sz (.sl sz (l.map f)) (.val (.int k n))) P .mk=((0≤n∧n<l.length)∧P (.eF (f (gt l n)))):=rv
@[simp] theorem ag2{l:List Int}{n:Int}:oA (ly 1 (dI l) (.val (.int k n))) P .mk=((0≤n∧n<l.length)∧P (.eF [.i (gt l n)])):=by unfold dI;rw[rv,sf]
@[simp] theorem ag8{l:List Pos}{n:Int}:oA (ly 5 (fe l) (.val (.int k n))) P .mk=((0≤n∧n<l.length)∧P (.eF (gt l n).cells)):=rv
@[simp] theorem ag7{l:List eG}{n:Int}:oA (ly 2 (fq l) (.val (.int k n))) P .mk=((0≤n∧n<l.length)∧P (.eF [.i (gt l n).1,.i (gt l n).2])):=by unfold fq;rw[rv,FB]
@[simp] theorem ag5{l:List α}{n:Int}:oA (ly sz (dN sz f l) (.val (.int k n))) P .mk=((0≤n∧n<l.length)∧P (.eF (f (gt l n)))):=by
 cases l with
 | nil=>
  simp only[dN,ly,MF,cw]
  refine propext ⟨fun h=>h.elim,fun⟨h,_⟩=>?_⟩
  have:=h.1;have:=h.2;simp at this;omega
 | cons a l=>exact rv
end
def zw(H:U)(k:Nat)(ρ:Nat→Option Nat)(v g sz off n:Nat):Option Nat→D
 | some v'=>.et v' g sz off n
 | none=>match rowAt H v g with
  | some (_,cs)=>if (off+n)*sz≤cs.length then .sl sz (chunks sz n ((cs.drop (off*sz)).map (eB ρ H k)))else .any
  | none=>.any
@[simp] theorem Zu(ρ:Nat→Option Nat)(H:U)(k v g sz off n:Nat):eB ρ H (k+1) (.et v g sz off n)=zw H k ρ v g sz off n (ρ v):=by
 rw[eB,if_neg (by simp[closed])]
 unfold zw;rfl
@[simp] theorem Zp(H:U)(k:Nat)(ρ:Nat→Option Nat)(v g sz off n v':Nat):zw H k ρ v g sz off n (some v') = .et v' g sz off n:=rfl
def zx(H:U)(k:Nat)(ρ:Nat→Option Nat)(v g off:Nat):Option Nat→D
 | some v'=>.ptr v' g off
 | none=>match rowAt H v g with
  | some (_,cs)=>.eF ((cs.drop off).map (eB ρ H k))
  | none=>.any
@[simp] theorem Zv(ρ:Nat→Option Nat)(H:U)(k v g off:Nat):eB ρ H (k+1) (.ptr v g off)=zx H k ρ v g off (ρ v):=by
 rw[eB,if_neg (by simp[closed])]
 unfold zx;rfl
@[simp] theorem Zq(H:U)(k:Nat)(ρ:Nat→Option Nat)(v g off v':Nat):zx H k ρ v g off (some v') = .ptr v' g off:=rfl
def En:Option Nat→D
 | some v'=>.omap v'
 | none=>.any
@[simp] theorem Zt(ρ:Nat→Option Nat)(H:U)(k v:Nat):eB ρ H (k+1) (.omap v)=En (ρ v):=by
 rw[eB,if_neg (by simp[closed])]
 unfold En;rfl
@[simp] theorem Zo(v:Nat):En (some v) = .omap v:=rfl
@[simp] theorem aiI:En none = .any:=rfl
@[simp] theorem aiT{ρ:Nat→Option Nat}{H:U}{k:Nat}{d:D}(h:closed d=true):eB ρ H k d=d:=lQ h
@[simp] theorem ad2(cs:List D):closed (.agg cs)=eT cs:=by simp only[closed]
@[simp] theorem ael(cs:List D):closed (.tup cs)=eT cs:=by simp only[closed]
@[simp] theorem aeh(cs:List D):closed (.eF cs)=eT cs:=by simp only[closed]
@[simp] theorem aem(v:Value):closed (.val v)=true:=by simp only[closed]
@[simp] theorem aeg:closed .emp=true:=by simp only[closed]
@[simp] theorem E9(f:Fn)(a b:List D):closed (.fn f a b)=(eT a&&eT b):=by simp only[closed]
@[simp] theorem aej(v g sz off n:Nat):closed (.et v g sz off n)=false:=by simp only[closed]
@[simp] theorem aek(v g o:Nat):closed (.ptr v g o)=false:=by simp only[closed]
@[simp] theorem aen(v:Nat):closed (.gv v)=false:=by simp only[closed]
theorem ur{ρ:Nat→Option Nat}{H:U}{k:Nat}{cs:List D}(h:eT cs=true):cs.map (eB ρ H k)=cs:=by
 conv=>rhs;rw[← aQ cs]
 exact ak fun d hd=>lQ (jF h d hd)
@[simp] theorem Zs(ρ:Nat→Option Nat)(H:U)(k:Nat)(cs:List D):eB ρ H (k+1) (.agg cs) = .agg (cs.map (eB ρ H k)):=by
 by_cases h:closed (.agg cs)=true
 ·rw[lQ h,ur (by simpa using h)]
 ·rw[eB,if_neg h]
@[simp] theorem Zw(ρ:Nat→Option Nat)(H:U)(k:Nat)(cs:List D):eB ρ H (k+1) (.tup cs) = .tup (cs.map (eB ρ H k)):=by
 by_cases h:closed (.tup cs)=true
 ·rw[lQ h,ur (by simpa using h)]
 ·rw[eB,if_neg h]
@[simp] theorem aiU(ρ:Nat→Option Nat)(H:U)(k:Nat)(c:Bool)(a b:D):eB ρ H k (bif c then a else b)=bif c then eB ρ H k a else eB ρ H k b:=by cases c<;>rfl
theorem HZ{ρ:Nat→Option Nat}{H:U}{k:Nat}{cs:List D}(h:eT cs=true):cs.map (eB ρ H (k+1))=cs:=by
 conv=>rhs;rw[← aQ cs]
 exact ak fun d hd=>lQ (jF h d hd)
theorem E8{α:Type}{sz:Nat}{f:α→List D}(hf:∀ a,(f a).length=sz):∀ l:List α,chunks sz l.length (l.map f).flatten=l.map f
 | []=>rfl
 | a::l=>by
  simp only[aJ,chunks,List.map_cons,aL]
  rw[bA (by rw[hf];exact Nat.le_refl _),aG (by rw[hf];exact Nat.le_refl _),dp (by rw[hf];exact Nat.le_refl _),aZ (by rw[hf];exact Nat.le_refl _),bJ,E8 hf l]
theorem Tt{α:Type}{sz:Nat}{f:α→List D}(hf:∀ a,(f a).length=sz)(l:List α):(l.map f).flatten.length=l.length*sz:=by
 induction l with
 | nil=>simp
 | cons a l ih=>simp only[List.map_cons,aL,az,hf,ih,aJ,bM];omega
theorem JL{a b:List D}:eT (a++b)=(eT a&&eT b):=by
 induction a with
 | nil=>rfl
 | cons d a ih=>simp only[ct,eT,ih,Bool.and_assoc]
theorem OP{α:Type}{f:α→List D}(hf:∀ a,eT (f a)=true)(l:List α):eT (l.map f).flatten=true:=by
 induction l with
 | nil=>rfl
 | cons a l ih=>simp only[List.map_cons,aL,JL,hf,ih];rfl
class Fl {α:Type} (f:α→List D) (sz:outParam Nat):Prop where
 len:∀ a,(f a).length=sz
 cl:∀ a,eT (f a)=true
instance:Fl f1 1:=⟨fun _=>by simp,fun _=>by simp[eT]⟩
instance:Fl fB 1:=⟨fun _=>by simp,fun _=>by simp[eT]⟩
instance:Fl fS 2:=⟨fun _=>by simp,fun _=>by simp[eT]⟩
instance:Fl fP 1:=⟨fun _=>by simp,fun _=>by simp[eT]⟩
instance:Fl fI 1:=⟨fun _=>by simp,fun _=>by simp[eT]⟩
instance:Fl Pos.cells 5:=⟨fun _=>rfl,fun _=>by simp⟩
instance:Fl Kind.cells 3:=⟨fun _=>rfl,fun _=>by simp⟩
instance:Fl Clause.cells 4:=⟨fun _=>rfl,fun _=>by simp⟩
section
variable{α:Type}{f:α→List D}{sz:Nat}
@[simp] theorem OL:cl f [] = []:=by rw[lF];rfl
@[simp] theorem Cr(a b:List α):cl f a++cl f b=cl f (a++b):=by simp[lF]
theorem mV(l:List α)(a:α):cl f l++f a=cl f (l ++ [a]):=by simp[lF]
theorem mU(l:List α)(a:α):cl f (a::l)=f a++cl f l:=by simp[lF]
variable [F:Fl f sz]
include F
@[simp] theorem ti(l:List α):(cl f l).length=l.length*sz:=by rw[lF];exact Tt F.len l
theorem rY:∀ (l:List α) (n:Nat),(cl f l).take (n*sz)=cl f (l.take n)
 | [],n=>by simp
 | a::l,0=>by simp
 | a::l,n+1=>by
  rw[mU,List.take_succ_cons,mU,← rY l n,bM,List.take_append,F.len,aG (by rw[F.len];omega)]
  congr 2;omega
theorem rX:∀ (l:List α) (n:Nat),(cl f l).drop (n*sz)=cl f (l.drop n)
 | [],n=>by simp
 | a::l,0=>by simp
 | a::l,n+1=>by
  rw[mU,List.drop_succ_cons,← rX l n,bM,List.drop_append,F.len,aZ (by rw[F.len];omega),bJ]
  congr 1;omega
@[simp] theorem adY(l:List α):(cl f l).take (l.length*sz)=cl f l:=by rw[rY,db]
@[simp] theorem pX(l:List α):eT (cl f l)=true:=by rw[lF];exact OP F.cl l
@[simp] theorem adW{ρ:Nat→Option Nat}{H:U}(l:List α):(cl f l).map (eB ρ H 40)=cl f l:=HZ (pX l)
@[simp] theorem xt{k:Nat}(l:List α):closed (.sl k (l.map f))=true:=by
 simp only[closed];exact vh F.cl l
theorem JJ(l:List α)(n j:Nat)(hj:j<sz):(cl f l)[n*sz+j]? = (l[n]?).bind fun a=>(f a)[j]? := by
 have h:(cl f l)[n*sz+j]? = ((cl f l).drop (n*sz))[j]? := by rw[aC]
 rw[h,rX]
 by_cases hn:n<l.length
 ·rw[bU hn,mU,ag (by rw[F.len];exact hj),List.getElem?_eq_getElem hn];rfl
 ·have h2:l[n]? = none:=aK (Nat.le_of_not_lt hn)
  rw[aZ (Nat.le_of_not_lt hn),h2];simp
theorem OM(l:List α)(n:Nat)(a:α)(h:n<l.length):(cl f l).take (n*sz)++f a++(cl f l).drop (n*sz+sz)=cl f (l.take n++a::l.drop (n+1)):=by
 rw[rY,← bM,rX,← Cr,mU,bg]
end
@[simp] theorem adH(l:List Int)(n:Nat):(cl f1 l).take n=cl f1 (l.take n):=by simpa using rY (f:=f1) l n
@[simp] theorem adF(l:List Int)(n:Nat):(cl f1 l).drop n=cl f1 (l.drop n):=by simpa using rX (f:=f1) l n
@[simp] theorem adG(l:List Int)(n:Int):cl f1 l ++ [.i n]=cl f1 (l ++ [n]):=by rw[← mV,sf]
@[simp] theorem adL(l:List (List Int))(x:List Int):cl fI l ++ [dI x]=cl fI (l ++ [x]):=by rw[← mV,PT]
@[simp] theorem adP(l:List (List eG))(x:List eG):cl fP l ++ [fq x]=cl fP (l ++ [x]):=by rw[← mV,PU]
@[simp] theorem adR(l:List eG)(a b:Int):cl fS l ++ [.i a,.i b]=cl fS (l ++ [(a,b)]):=by rw[← mV,FB]
@[simp] theorem adQ(l:List Pos)(a b c:List Int)(r q:Int):cl Pos.cells l ++ [dI a,dI b,dI c,.i r,.i q]=cl Pos.cells (l ++ [⟨a,b,c,r,q⟩]):=by rw[← mV];rfl
@[simp] theorem ah1(p:Pos):Pos.mk p.cs p.h0 p.h1 p.eQ p.side=p:=rfl
@[simp] theorem ag0{l:List Int}{n:Int}{P:D→Prop}:oA (cl f1 l)[n.toNat]? P .mk=(n.toNat<l.length∧P (.i (gt l n))):=by
 have h:=JJ (f:=f1) l n.toNat 0 (by omega)
 simp only[Nat.mul_one,b9]at h
 rw[h]
 by_cases hn:n.toNat<l.length
 ·rw[List.getElem?_eq_getElem hn]
  have e:gt l n=l[n.toNat]:=by unfold gt;rw[List.getD_eq_getElem?_getD,List.getElem?_eq_getElem hn];rfl
  simp[hn,e]
 ·rw[aK (by omega)];simp[hn]
@[simp] theorem T7{α:Type}[Inhabited α]{f:α→List D}{sz:Nat}[F:Fl f sz]{l:List α}{t:TypeId}{n:Int}{P:D→Prop}(hz:0<sz):oA (qt sz (n.toNat*sz) (some (t,cl f l))) P .mk=(n.toNat<l.length∧P (.agg (f (gt l n)))):=by
 simp only[qt,ti,← bM]
 rw[v8,uB]
 have h:n.toNat.succ*sz≤l.length*sz↔n.toNat<l.length:=dH hz
 rw[h]
 refine propext ⟨fun⟨a,p⟩=>⟨a,?_⟩,fun⟨a,p⟩=>⟨a,?_⟩⟩
 ·have e:gt l n=l[n.toNat]:=by unfold gt;rw[List.getD_eq_getElem?_getD,List.getElem?_eq_getElem a];rfl
  rw[rX,bU a,mU,bA (by rw[F.len];exact Nat.le_refl _),aG (by rw[F.len];exact Nat.le_refl _),← e]at p
  exact p
 ·have e:gt l n=l[n.toNat]:=by unfold gt;rw[List.getD_eq_getElem?_getD,List.getElem?_eq_getElem a];rfl
  rw[rX,bU a,mU,bA (by rw[F.len];exact Nat.le_refl _),aG (by rw[F.len];exact Nat.le_refl _),← e]
  exact p
def ln(ρ:Nat→Option Nat)(H:U)(k sz off n:Nat):Option (TypeId×List D)→D
 | some (_,cs)=>if (off+n)*sz≤cs.length then .sl sz (chunks sz n ((cs.drop (off*sz)).map (eB ρ H k)))else .any
 | none=>.any
@[simp] theorem aiJ(H:U)(k:Nat)(ρ:Nat→Option Nat)(v g sz off n:Nat):zw H k ρ v g sz off n none=ln ρ H k sz off n (rowAt H v g):=by
 unfold zw ln;rfl
@[simp] theorem qU{α:Type}{f:α→List D}{sz:Nat}[F:Fl f sz]{ρ:Nat→Option Nat}{H:U}{k n:Nat}{t:TypeId}{l:List α}(h:n=l.length):ln ρ H (k+1) sz 0 n (some (t,cl f l)) = .sl sz (l.map f):=by
 subst h
 unfold ln
 dsimp only
 rw[ti,if_pos (by simp),b8,dV,HZ (pX l),lF,E8 F.len]
@[simp] theorem aeY{ρ:Nat→Option Nat}{H:U}{k sz:Nat}{p:TypeId×List D}:ln ρ H k sz 0 0 (some p) = .sl sz []:=by
 unfold ln;simp[chunks]
@[simp] theorem ae0{ρ:Nat→Option Nat}{H:U}{k:Nat}{t:TypeId}{n:Int}:ln ρ H (k+1) 1 0 1 (some (t,[.i n]))=dI [n]:=by
 have:=qU (f:=f1) (ρ:=ρ) (H:=H) (k:=k) (t:=t) (l:=[n]) (n:=1) rfl
 rw[lF]at this
 simp only[List.map_cons,List.map_nil,sf,aL,cH,av]at this
 rw[this];unfold dI;simp only[List.map_cons,List.map_nil,sf]
@[simp] theorem ae2{ρ:Nat→Option Nat}{H:U}{k:Nat}{t:TypeId}{a b c:List Int}{r q:Int}:ln ρ H (k+1) 5 0 1 (some (t,[dI a,dI b,dI c,.i r,.i q]))=fe [⟨a,b,c,r,q⟩]:=by
 have h:=qU (f:=Pos.cells) (ρ:=ρ) (H:=H) (k:=k) (t:=t) (l:=[⟨a,b,c,r,q⟩]) (n:=1) rfl
 rw[lF]at h
 unfold fe;exact h
@[simp] theorem Zz(l:List Int):D.sl 1 (l.map f1)=dI l:=by unfold dI;rfl
@[simp] theorem aji(l:List Pos):D.sl 5 (l.map Pos.cells)=fe l:=by unfold fe;rfl
@[simp] theorem ajh(l:List eG):D.sl 2 (l.map fS)=fq l:=by unfold fq;rfl
def oX(ρ:Nat→Option Nat)(H:U):Option Ob→Ob
 | some o=>lz ρ H o
 | none=>.dead
@[simp] theorem aiS(ρ:Nat→Option Nat)(H:U)(t g:Nat)(cs:List D):oX ρ H (some (.row t g cs)) = .row t g (cs.map (eB ρ H 40)):=rfl
@[simp] theorem aiP(ρ:Nat→Option Nat)(H:U)(kk:KK)(es:List (Value×D)):oX ρ H (some (.map kk es)) = .map kk (es.map fun x=>(x.1,eB ρ H 40 x.2)):=rfl
@[simp] theorem aiN(ρ:Nat→Option Nat)(H:U):oX ρ H (some .dead) = .dead:=rfl
@[simp] theorem aiO(ρ:Nat→Option Nat)(H:U):oX ρ H (some .jv) = .jv:=rfl
@[simp] theorem aiR(ρ:Nat→Option Nat)(H:U)(rf:Nat)(e:Env)(st:nP):oX ρ H (some (.fy rf e st)) = .fy rf (e.map fun x=>(x.1,eB ρ H 40 x.2)) st:=rfl
def Fh(env:Env)(H:U)(m:List Nat)(r:Bool)(ks:ke):St:={ env:=env.map fun p=>(p.1,eB (fO ks) H 40 p.2),H:=ks.map fun p=>if p.2 then oX (fO ks) H H[p.1]? else .dead,marks:=m.map fun v=>(fO ks v).getD v,fM:=r }
def HL(n:Nat)(env:Env)(H:U)(m:List Nat):List Nat:=dedup (((env.map fun p=>gx n p.2).flatten++((H.take n).map (lM n)).flatten++m.filter (n≤·)).filter (· < H.length))
@[simp low] theorem JZ{n:Nat}{live:List Nat}{env:Env}{H:U}{m:List Nat}{r:Bool}(h:¬ H.length≤n):cut n live { env:=env,H:=H,marks:=m,fM:=r }=Fh (forget live env) H m r (gu n (HL n (forget live env) H m)):=by
 unfold cut Fh HL
 dsimp only
 rw[if_neg h]
 rfl
@[simp] theorem afu(K:List Nat):gu 0 K=K.map fun v=>(v,true):=rfl
@[simp] theorem afv(K:List Nat):gu 1 K=(0,true)::K.map fun v=>(v,true):=rfl
@[simp] theorem afG(K:List Nat):gu 2 K=(0,true)::(1,true)::K.map fun v=>(v,true):=rfl
@[simp] theorem afL(K:List Nat):gu 3 K=(0,true)::(1,true)::(2,true)::K.map fun v=>(v,true):=rfl
@[simp] theorem afM(K:List Nat):gu 4 K=(0,true)::(1,true)::(2,true)::(3,true)::K.map fun v=>(v,true):=rfl
def sP(i:Nat):ke→Nat→Option Nat
 | [],_=>none
 | p::r,v=>if p.2&&p.1 == v then some i else sP (i+1) r v
theorem Y4(ks:ke)(v:Nat):fO ks v=sP 0 ks v:=by
 have key:∀ (ks:ke) (i:Nat),sP i ks v=(ks.findIdx? (fun p=>p.2&&p.1 == v)).map (· + i):=by
  intro ks
  induction ks with
  | nil=>intro i;rfl
  | cons p r ih=>
   intro i
   rw[List.findIdx?_cons]
   unfold sP
   split
   ·simp
   ·rw[ih,Option.map_map]
    congr 1;funext x;simp;omega
 rw[key];simp[fO]
@[simp] theorem aiy(v:Nat):fO [] v=none:=rfl
@[simp] theorem aix(p:Nat×Bool)(r:ke)(v:Nat):fO (p::r) v=if (p.2&&p.1 == v)=true then some 0 else sP 1 r v:=by
 rw[Y4];rfl
@[simp] theorem aiw(i v:Nat):sP i [] v=none:=rfl
@[simp] theorem aiv(i:Nat)(p:Nat×Bool)(r:ke)(v:Nat):sP i (p::r) v=if (p.2&&p.1 == v)=true then some i else sP (i+1) r v:=rfl
@[simp] theorem aer(env:Env)(H:U)(m:List Nat)(r:Bool)(ks:ke):Fh env H m r ks = { env:=env.map fun p=>(p.1,eB (fO ks) H 40 p.2),H:=ks.map fun p=>if p.2 then oX (fO ks) H H[p.1]? else .dead,marks:=m.map fun v=>(fO ks v).getD v,fM:=r }:=rfl
@[simp] theorem aid(n:Nat)(env:Env)(H:U)(m:List Nat):HL n env H m=dedup (((env.map fun p=>gx n p.2).flatten++((H.take n).map (lM n)).flatten++m.filter (n≤·)).filter (· < H.length)):=rfl
@[simp] theorem aeu:dedup [] = []:=rfl
@[simp] theorem aet(x:Nat)(r:List Nat):dedup (x::r)=if x∈r then dedup r else x::dedup r:=rfl
theorem EK(n:Nat){d:D}(h:closed d=true):gx n d = []:=by
 cases d<;>first|rfl|cases h
@[simp] theorem ajF(n:Nat)(l:List Int):gx n (dI l) = []:=rfl
@[simp] theorem ajK(n:Nat)(l:List Pos):gx n (fe l) = []:=rfl
@[simp] theorem ajI(n:Nat)(p:Pos):gx n (dP p) = []:=rfl
@[simp] theorem ajJ(n:Nat)(l:List eG):gx n (fq l) = []:=rfl
@[simp] theorem ajE(n:Nat)(g:ew):gx n (dG g) = []:=rfl
@[simp] theorem ajD(n:Nat)(g:ew):gx n g.gF = []:=rfl
@[simp] theorem ajG{α:Type}(n sz:Nat)(f:α→List D)(l:List α):gx n (dN sz f l) = []:=by cases l<;>rfl
@[simp] theorem ajW(n:Nat)(v:Value):gx n (.val v) = []:=rfl
@[simp] theorem ajC(n:Nat):gx n .any = []:=rfl
@[simp] theorem ajN(n:Nat):gx n .emp = []:=rfl
@[simp] theorem ajB(n:Nat)(cs:List D):gx n (.agg cs) = []:=rfl
@[simp] theorem ajV(n:Nat)(cs:List D):gx n (.tup cs) = []:=rfl
@[simp] theorem ajP(n:Nat)(cs:List D):gx n (.eF cs) = []:=rfl
@[simp] theorem ajU(n sz:Nat)(es:List (List D)):gx n (.sl sz es) = []:=rfl
@[simp] theorem ajO(n:Nat)(f:Fn)(a b:List D):gx n (.fn f a b) = []:=rfl
@[simp] theorem ajS(n v g sz off len:Nat):gx n (.et v g sz off len)=if n≤v then [v]else []:=rfl
@[simp] theorem ajT(n v g off:Nat):gx n (.ptr v g off)=if n≤v then [v]else []:=rfl
@[simp] theorem ajR(n v:Nat):gx n (.omap v)=if n≤v then [v]else []:=rfl
@[simp] theorem ajX(n v:Nat):gx n (.gv v)=if n≤v then [v]else []:=rfl
theorem YW(n:Nat){cs:List D}(h:eT cs=true):(cs.map (gx n)).flatten = []:=by
 induction cs with
 | nil=>rfl
 | cons d r ih=>
  simp only[eT,ah]at h
  simp[EK n h.1,ih h.2]
@[simp] theorem adV(n:Nat){α:Type}{f:α→List D}{sz:Nat}[F:Fl f sz](l:List α):((cl f l).map (gx n)).flatten = []:=YW n (pX l)
@[simp] theorem ahp(n t g:Nat)(cs:List D):lM n (.row t g cs)=(cs.map (gx n)).flatten:=rfl
@[simp] theorem ahm(n:Nat)(kk:KK)(es:List (Value×D)):lM n (.map kk es)=(es.map fun x=>gx n x.2).flatten:=rfl
@[simp] theorem ahk(n:Nat):lM n .dead = []:=rfl
theorem Tn{H:U}{d:D}(h:H≠[]):leave 0 0 H d=(eB (fun _=>none) H 40 d,[]):=by
 unfold leave
 rw[if_neg (by cases H with|nil=>exact absurd rfl h|cons a l=>simp)]
 rfl
@[simp] theorem af9{o:Ob}{r:U}{d:D}:leave 0 0 (o::r) d=(eB (fun _=>none) (o::r) 40 d,[]):=Tn (by simp)
attribute [simp] and_assoc Kind.cells Clause.cells dP Pos.cells dG ew.cells ew.gF
def ib(T:fE)(n:Nat)(live:List Nat)(a:IR)(s:St)(K:gh)(_:Tag (live,a,s,K)):Prop:=Ev T (.loop n live (iV a) s) (PO K)
def DP(T:fE)(n:Nat)(live:List Nat)(a:IR)(K:gh):gh:=fun o=>match o with
 | .norm s=>ib T n live a (cut n live s) K .mk
 | o=>K o
def Nl(T:fE)(v rf:Nat)(b:IR)(dst:Option Nat)(s:St)(K:St→Prop):gh:=fun o=>match o with
 | .norm s1=>∃ iS,s1.H[v]? = some (.fy rf iS .ready)∧XC T b { s1 with H:=s1.H.set v (.fy rf iS .busy) } (uH v rf dst s K)
 | _=>False
theorem nQ.r{T:fE}{v rf:Nat}{args:List D}{dst:Option Nat}{s:St}{K:St→Prop}{env0:Env}{Rd:mb}(hv:s.H[v]? = some (.fy rf env0 .ready))(hR:T.round rf=some Rd)(hl:args.length=Rd.params.length)
  (ca cb:IR) (ha:iV ca=Rd.a) (hb:iV cb=Rd.b)
  (h:XC T ca { env:=oz Rd.params args env0,H:=s.H,fM:=true } (Nl T v rf cb dst s K)):nQ T v args dst s K .mk:=by
 refine⟨rf,env0,Rd,hv,hR,hl,?_⟩
 rw[← ha]
 refine(XC.wc h).mono fun o ho=>?_
 cases o with
 | norm s1=>
  obtain⟨iS,h1,h2⟩:=ho
  exact⟨s1,iS,rfl,h1,by rw[← hb];exact XC.wc h2⟩
 | exit=>exact ho.elim
 | ret=>exact ho.elim
def Y7(rf:Nat)(s:St)(K:gh):D→U→Prop:=fun _ H'=>∃ env st,H'[s.H.length+1]? = some (.fy rf env st)∧oA (uF { s with H:=H'.set (s.H.length+1) .dead,marks:=s.H.length::s.marks } st) K .mk
theorem u7.r{T:fE}{rf:Nat}{live:List Nat}{x:X}{s:St}{K:gh}{f:FuncId}{first cap:List D}{fn:ey}(hr:s.fM=false)(hx:ev s.env.get x = .fn (.func f) first cap)(hf:T.fn f=some fn)(hp:fn.full=true)
  (h:Wf T f (first ++ [.gv (s.H.length+1)]++cap) (s.H ++ [.jv,.fy rf (forget live s.env) .ready]) (Y7 rf s K)):u7 T rf live x s K .mk:=
 Ev.jQ hr hx hf hp h fun d H' ⟨d',H2,he,env,st,h1,o,h2,h3⟩=>by
  cases he
  exact⟨env,st,o,h1,h2,o,rfl,h3⟩
section
variable{T:fE}{n:Nat}{live:List Nat}{a:IR}{s:St}{K:gh}{id:Nat}
theorem eE.un(h:ib T s.H.length live a { s with env:=forget live s.env } K .mk):eE T live a s K .mk:=Ev.loop h
theorem ib.u(h:XC T a s (DP T n live a K)):ib T n live a s K .mk:=by
 refine Ev.sL (XC.wc h) (fun zu ⟨o,e,k⟩=>?_) fun o ⟨o',e,k⟩ hs=>?_
 ·cases e;exact k
 ·cases e
  cases o with
  | norm=>cases hs
  | exit=>exact⟨_,rfl,k⟩
  | ret=>exact⟨_,rfl,k⟩
@[simp ↓] theorem agz:DP T n live a K (.norm s)=ib T n live a (cut n live s) K .mk:=(rfl)
@[simp ↓] theorem agy:DP T n live a K (.exit id s)=K (.exit id s):=(rfl)
@[simp ↓] theorem agA:DP T n live a K (.ret s)=K (.ret s):=(rfl)
end
theorem Xk{x b:Bool}{P Q:Prop}(k:cond b P Q)(h:x=b:=by first|(show _=true;first|assumption|exact decide_eq_true (by assumption))|(show _=false;first|assumption|exact decide_eq_false (by assumption))):X2 x P Q .mk:=by
 subst h;cases x<;>simpa using k
class PB (x:Bool) (I:outParam (Prop→Prop)) (q:outParam Prop):Prop where
 t:∀ {P:Prop},I P→x=true→P
 f:x=false→q
instance(priority:=low){x:Bool}:PB x (fun P=>x=true→P) (x=false):=⟨fun h e=>h e,id⟩
instance{p:Prop}[Decidable p]:PB (decide p) (fun P=>p→P) (¬p):=⟨fun h e=>h (of_decide_eq_true e),of_decide_eq_false⟩
instance{p q:Prop}[Decidable p][Decidable q]:PB (decide p&&decide q) (fun P=>p→q→P) (¬(p∧q)):=⟨fun h e=>by
 rw[← dM]at e
 exact h (of_decide_eq_true e).1 (of_decide_eq_true e).2,fun e=>by rw[← dM]at e;exact of_decide_eq_false e⟩
instance{p q:Prop}[Decidable p][Decidable q]:PB (decide p||decide q) (fun P=>p∨q→P) (¬(p∨q)):=⟨fun h e=>by
 rw[← dT]at e
 exact h (of_decide_eq_true e),fun e=>by rw[← dT]at e;exact of_decide_eq_false e⟩
theorem Xs{x:Bool}{I:Prop→Prop}{q P Q:Prop}[c:PB x I q](h:I P)(k:q→Q):X2 x P Q .mk:=⟨c.t h,fun e=>k (c.f e)⟩
theorem Yc{T:fE}{f:FuncId}{args:List D}{dst:Option Nat}{s:St}{K:St→Prop}{fn:ey}{x:D}(h:Wf T f args [] fun d H'=>d=x∧H' = [])(k:K { s with env:=put s.env dst x })
  (hf:T.fn f=some fn:=by exact rfl) (hp:fn.full=false:=by exact rfl) (hc:eT args=true:=by simp) (hx:closed x=true:=by simp):eS T f args dst s K .mk:=eS.c hf hp h hc hx k
theorem Yt{T:fE}{f:FuncId}{args:List D}{R:List Fp}{dst:Option Nat}{s:St}{Q:Rc→St→Prop}{fn:ey}{x:D}(h:Wf T f args [] fun d H'=>d=x∧H' = [])(k:Q ⟨R,[]⟩ { s with env:=put s.env dst x })
  (hf:T.fn f=some fn:=by exact rfl) (hp:fn.full=false:=by exact rfl) (hc:eT args=true:=by simp) (hx:closed x=true:=by simp):gi T f args R dst s Q .mk:=gi.c hf hp h hc hx k
theorem Yr{T:fE}{f:FuncId}{args mB:List D}{dst:Option Nat}{s:St}{K:St→Prop}{fn:ey}{x:D}(h:Wf T f mB [] fun d H'=>d=x∧H' = [])(k:K { s with env:=put s.env dst x })
  (hf:T.fn f=some fn:=by exact rfl) (hp:fn.full=false:=by exact rfl) (hs:args.map (eB (fun _=>none) s.H 40)=mB:=by simp) (hx:flat x=true:=by simp[flat]) (jH:closed x=true:=by simp):eS T f args dst s K .mk:=eS.r hf hp h hs hx jH k
theorem Yg{T:fE}{f:FuncId}{args:List D}{H:U}(fn:ey){K:D→U→Prop}(h:XC T fn.body { env:=om args,H:=H } (sg fn.results fn.own H.length K))
  (hf:T.fn f=some fn:=by exact rfl) (hl:args.length≤fn.ntmps:=by exact dh rfl) (hz:oq fn.body=true:=by exact rfl):Wf T f args H K:=Wf.x hf hl h hz
theorem Yz{T:fE}{f:FuncId}{args:List D}{H:U}(fn:ey)(c:IR){K:D→U→Prop}(h:XC T c { env:=om args,H:=H } (sg fn.results fn.own H.length K))
  (hf:T.fn f=some fn:=by exact rfl) (hl:args.length≤fn.ntmps:=by exact dh rfl) (hc:iV c=fn.body:=by simp only[sX,sY];exact l9 rfl):Wf T f args H K:=Wf.xz fn.own c hf hl hc h
