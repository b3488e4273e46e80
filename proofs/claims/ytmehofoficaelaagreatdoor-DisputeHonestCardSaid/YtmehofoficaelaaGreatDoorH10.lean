/- Part 10 of DisputeHonest. -/
import Derived.Test.YtmehofoficaelaaGreatDoorH09
set_option linter.all false
namespace Go.AL
open Go
universe u
inductive Tag{α:Sort u}(a:α):Type
 | mk
def oA{α:Type}(x:Option α)(P:α->Prop)(_:Tag P):Prop:=∃a,x=some a/\P a
@[simp] theorem yE{α:Type}(a:α)(P:α->Prop):oA (some a) P .mk=P a:=by simp[oA]
@[simp] theorem WC{α:Type}(P:α->Prop):oA none P .mk=False:=by simp[oA]
@[simp high] theorem AD{α:Type}{c:Prop}[Decidable c](x:Option α)(P:α->Prop):oA (if c then x else none) P .mk=(c/\oA x P .mk):=by by_cases h:c<;>simp[h]
@[simp] theorem asV{α:Type}{c:Prop}[Decidable c](x y:Option α)(P:α->Prop):oA (if c then x else y) P .mk=((c->oA x P .mk)/\(¬c->oA y P .mk)):=by by_cases h:c<;>simp[h]
@[simp] theorem asW(x:Option D)(P:D×Dl->Prop):oA (lift x) P .mk=oA x (λd=>P (d,.no)) .mk:=by cases x<;>simp[lift]
@[simp] theorem asJ{α b:Type}(x:Option α)(f:α->Option b)(P:b->Prop):oA (x.bind f) P .mk=oA x (λa=>oA (f a) P .mk) .mk:=by cases x<;>simp
def gB:D->Bool->Option Bool
 | .val (.bool b),want=>some (b == want)
 | .val (.tuple _),_=>some false
 | _,_=>none
@[simp] theorem aqi(a:Bool):gB (.val undef) a=some false:=rfl
@[simp] theorem aqh(x:Bool):gB (.b x) true=some x:=by cases x<;>rfl
@[simp] theorem aqg(x:Bool):gB (.b x) false=some (!x):=by cases x<;>rfl
@[simp] theorem aqu(f:gj):guardOf f none=some true:=rfl
@[simp] theorem aqv(f:gj)(j:Nat)(w:Bool):guardOf f (some (j,w))=gB (f j) w:=by show(match f j with | .val (.bool b)=>some (b == w) | .val (.tuple _)=>some false|_=>none)=gB (f j) w;unfold gB;split<;>simp_all
@[simp] theorem apL(f:gj)(k:Nat):ev f (.t k)=f k:=rfl
@[simp] theorem apK(f:gj)(d:D):ev f (.c d)=d:=rfl
@[simp] theorem atX(env:Env)(k:Nat)(d:D):put env (some k) d=(k,d)::env:=rfl
@[simp] theorem atW(env:Env)(d:D):put env none d=env:=rfl
@[simp] theorem anw(H:U)(al:Al):Dl.no.app H al=H:=rfl
@[simp] theorem anv(H:U)(al:Al)(ob:Ob):(Dl.new ob).app H al=al.2 ob:=rfl
@[simp] theorem anx(H:U)(al:Al)(v:Nat)(ob:Ob):(Dl.obj v ob).app H al=H.set v ob:=rfl
def setCells(H:U)(v o:Nat)(xs:List D):Option Ob->U
 | some (.row t g cs)=>H.set v (.row t g (cs.take o++xs++cs.drop (o+xs.length)))
 | _=>H
@[simp] theorem ans(H:U)(al:Al)(v o:Nat)(xs:List D):(Dl.cells v o xs).app H al=setCells H v o xs H[v]? := by show(match H[v]? with|some (.row t g cs)=>H.set v (.row t g (cs.take o++xs++cs.drop (o+xs.length)))|_=>H)=_;unfold setCells;split<;>simp_all
@[simp] theorem auv(H:U)(v o:Nat)(xs:List D)(t g:Nat)(cs:List D):setCells H v o xs (some (.row t g cs))=H.set v (.row t g (cs.take o++xs++cs.drop (o+xs.length))):=rfl
def xe(k:IntKind)(a b:Int):Int:=k.wrap (a*2 ^ (min b.toNat k.bits))
def lK(k:IntKind)(a b:Int):Int:=a.fdiv (2 ^ (min b.toNat k.bits))
section
variable{k:IntKind}{a b:Int}
@[simp] theorem anO:ke .add (.val (.int k a)) (.val (.int k b))=jl .add k a b:=by simp[ke,oT]
@[simp] theorem an4:ke .sub (.val (.int k a)) (.val (.int k b))=jl .sub k a b:=by simp[ke,oT]
@[simp] theorem anW:ke .mul (.val (.int k a)) (.val (.int k b))=jl .mul k a b:=by simp[ke,oT]
@[simp] theorem anZ:ke .quo (.val (.int k a)) (.val (.int k b))=jl .quo k a b:=by simp[ke,oT]
@[simp] theorem an0:ke .rem (.val (.int k a)) (.val (.int k b))=jl .rem k a b:=by simp[ke,oT]
@[simp] theorem anP:ke .and (.val (.int k a)) (.val (.int k b))=some (.val (.int k (bits .and k a b))):=by simp[ke,oT,jl]
@[simp] theorem anY:ke .or (.val (.int k a)) (.val (.int k b))=some (.val (.int k (bits .or k a b))):=by simp[ke,oT,jl]
@[simp] theorem an5:ke .xor (.val (.int k a)) (.val (.int k b))=some (.val (.int k (bits .xor k a b))):=by simp[ke,oT,jl]
@[simp] theorem anQ:ke .andNot (.val (.int k a)) (.val (.int k b))=some (.val (.int k (bits .andNot k a b))):=by simp[ke,oT,jl]
@[simp] theorem anR:ke .eql (.val (.int k a)) (.val (.int k b))=some (.b (decide (a=b))):=by simp[ke,oT,jl,BEq.beq]
@[simp] theorem anX:ke .neq (.val (.int k a)) (.val (.int k b))=some (.b (!decide (a=b))):=by simp[ke,oT,jl,bne,BEq.beq]
@[simp] theorem anV:ke .lss (.val (.int k a)) (.val (.int k b))=some (.b (decide (a<b))):=by simp[ke,oT,jl]
@[simp] theorem anU:ke .leq (.val (.int k a)) (.val (.int k b))=some (.b (decide (a<=b))):=by simp[ke,oT,jl]
@[simp] theorem anT:ke .gtr (.val (.int k a)) (.val (.int k b))=some (.b (decide (a>b))):=by simp[ke,oT,jl]
@[simp] theorem anS:ke .geq (.val (.int k a)) (.val (.int k b))=some (.b (decide (a>=b))):=by simp[ke,oT,jl]
@[simp] theorem an1{k2:IntKind}:ke .shl (.val (.int k a)) (.val (.int k2 b))=if 0<=b then some (.val (.int k (xe k a b)))else none:=rfl
@[simp] theorem an2{k2:IntKind}:ke .shr (.val (.int k a)) (.val (.int k2 b))=if 0<=b then some (.val (.int k (lK k a b)))else none:=rfl
@[simp] theorem an3(op:BinOp)(s t:ByteArray):ke op (.val (.string s)) (.val (.string t))=CX op s t:=rfl
@[simp] theorem av1(x:Bool):CZ .not (.b x)=some (.b !x):=rfl
@[simp] theorem av0(n:Int):CZ .neg (.i n)=if mX (-n)then some (.i (-n))else none:=rfl
@[simp] theorem apy(b:IntKind):J6 b (.val (.int k a))=some (.val (.int b (b.wrap a))):=rfl
end
@[simp] theorem apQ(off v g o:Nat):D' off (.ptr v g o)=some (.ptr v g (o+off)):=rfl
@[simp] theorem apP(off:Nat)(cs:List D):D' off (.fH cs)=some (.fH (cs.drop off)):=rfl
@[simp] theorem apR(off n:Nat)(cs:List D):zu off n true (.agg cs)=if off+n<=cs.length then some (.agg ((cs.drop off).take n))else none:=rfl
@[simp] theorem apS(off n:Nat)(cs:List D):zu off n false (.agg cs)=cs[off]? := rfl
@[simp] theorem apM(ds:List D)(i:Nat):Kq (.tup ds) i=ds[i]? := rfl
@[simp] theorem ass(v g o:Nat):Ay (.ptr v g o)=some (.ptr v g o):=rfl
@[simp] theorem asr(cs:List D):Ay (.fH cs)=some (.fH cs):=rfl
@[simp] theorem asq(f:FuncId)(a b:List D):Ay (.fn (.func f) a b)=some (.fn (.func f) a b):=rfl
@[simp] theorem ast(v:Nat):Ay (.iw v)=some (.iw v):=rfl
def rowOf(k:Nat):Option Ob->Option (TypeId×List D)
 | some (.row t g cs)=>if g=k then some (t,cs)else none
 | _=>none
@[simp] theorem ajU(H:U)(v k:Nat):rowAt H v k=rowOf k H[v]? := by unfold rowAt rowOf;split<;>simp_all
@[simp] theorem auu(k:Nat)(t:TypeId)(g:Nat)(cs:List D):rowOf k (some (.row t g cs))=if g=k then some (t,cs)else none:=rfl
@[simp] theorem aru(v g o:Nat)(H:U):vA (.ptr v g o) H=(rowAt H v g).bind λp=>p.2[o]? := by show(match rowAt H v g with|some (_,cs)=>cs[o]? | none=>none)=_;cases rowAt H v g<;>rfl
@[simp] theorem art(cs:List D)(H:U):vA (.fH cs) H=cs[0]? := rfl
def tm(n o:Nat):Option (TypeId×List D)->Option D
 | some p=>if o+n<=p.2.length then some (.agg ((p.2.drop o).take n))else none
 | none=>none
@[simp] theorem arB(n o:Nat):tm n o none=none:=rfl
@[simp low] theorem arC(n o:Nat)(p:TypeId×List D):tm n o (some p)=if o+n<=p.2.length then some (.agg ((p.2.drop o).take n))else none:=rfl
@[simp] theorem arw(n v g o:Nat)(H:U):uw n (.ptr v g o) H=tm n o (rowAt H v g):=by show(match rowAt H v g with|some (_,cs)=>if o+n<=cs.length then some (D.agg ((cs.drop o).take n))else none|none=>none)=_;cases rowAt H v g<;>rfl
@[simp] theorem arv(n:Nat)(cs:List D)(H:U):uw n (.fH cs) H=if n<=cs.length then some (.agg (cs.take n))else none:=rfl
@[simp] theorem avu(v g o:Nat)(x:D)(H:U):AY (.ptr v g o) x H=(rowAt H v g).bind λp=>if o<p.2.length/\one x=true then some (.any,.cells v o [x])else none:=by show(match rowAt H v g with|some (_,cs)=>if o<cs.length/\one x=true then some (D.any,Dl.cells v o [x])else none|none=>none)=_;cases rowAt H v g<;>rfl
@[simp] theorem avv(n v g o:Nat)(xs:List D)(H:U):AZ n (.ptr v g o) (.agg xs) H=(rowAt H v g).bind λp=>if xs.length=n/\o+n<=p.2.length then some (.any,.cells v o xs)else none:=by show(match rowAt H v g with|some (_,cs)=>if xs.length=n/\o+n<=cs.length then some (D.any,Dl.cells v o xs)else none|none=>none)=_;cases rowAt H v g<;>rfl
@[simp] theorem aob(t:TypeId)(cs:List D)(n:Nat):rX t (.agg cs) n=some (.ptr n 0 0,.new (.row t 0 cs)):=rfl
@[simp] theorem aou(cs:List D):cellsOf (.agg cs)=some cs:=rfl
@[simp] theorem aoG(k:IntKind)(n:Int):cellsOf (.val (.int k n))=some [.val (.int k n)]:=rfl
@[simp] theorem aov(b:Bool):cellsOf (.b b)=some [.b b]:=rfl
@[simp] theorem aoL(b:ByteArray):cellsOf (.val (.string b))=some [.val (.string b)]:=rfl
@[simp] theorem aoK(sz:Nat)(es:List (List D)):cellsOf (.sl sz es)=some [.sl sz es]:=rfl
@[simp] theorem aox(l:List Int):cellsOf (dI l)=some [dI l]:=rfl
@[simp] theorem aoA(l:List Pos):cellsOf (gC l)=some [gC l]:=rfl
@[simp] theorem aoz(l:List fq):cellsOf (gQ l)=some [gQ l]:=rfl
@[simp] theorem aoy{α:Type}(sz:Nat)(f:α->List D)(l:List α):cellsOf (dN sz f l)=some [dN sz f l]:=by cases l<;>rfl
@[simp] theorem aoD:cellsOf .fw=some [.fw]:=rfl
@[simp] theorem aoI(v g sz off n:Nat):cellsOf (.fm v g sz off n)=some [.fm v g sz off n]:=rfl
@[simp] theorem aoJ(v g o:Nat):cellsOf (.ptr v g o)=some [.ptr v g o]:=rfl
@[simp] theorem aoF(cs:List D):cellsOf (.fH cs)=some [.fH cs]:=rfl
@[simp] theorem aoH(v:Nat):cellsOf (.fV v)=some [.fV v]:=rfl
@[simp] theorem aoE(f:Fn)(a b:List D):cellsOf (.fn f a b)=some [.fn f a b]:=rfl
@[simp] theorem atx(k:IntKind)(n:Int):one (.val (.int k n))=true:=rfl
@[simp] theorem ato(b:Bool):one (.b b)=true:=rfl
@[simp] theorem atC(b:ByteArray):one (.val (.string b))=true:=rfl
@[simp] theorem atB(sz:Nat)(es:List (List D)):one (.sl sz es)=true:=rfl
@[simp] theorem atq(l:List Int):one (dI l)=true:=rfl
@[simp] theorem ats(l:List Pos):one (gC l)=true:=rfl
@[simp] theorem atr(l:List fq):one (gQ l)=true:=rfl
@[simp] theorem atu:one .fw=true:=rfl
@[simp] theorem atz(v g sz off n:Nat):one (.fm v g sz off n)=true:=rfl
@[simp] theorem atA(v g o:Nat):one (.ptr v g o)=true:=rfl
@[simp] theorem atw(cs:List D):one (.fH cs)=true:=rfl
@[simp] theorem aty(v:Nat):one (.fV v)=true:=rfl
@[simp] theorem atv(f:Fn)(a b:List D):one (.fn f a b)=true:=rfl
@[simp] theorem aol(f:gj)(z:List D)(ps:List (Nat×Nat×X)):Br f z ps=(partsOf f ps).bind λl=>(lay l z).bind λcs=>some (D.agg cs):=by
 unfold Br;cases partsOf f ps with
 | none=>rfl
 | some l=>simp only[Option.bind_some];cases lay l z<;>rfl
@[simp] theorem aok(f:gj)(t sz:Nat)(z:List D)(m:Nat)(ps:List (Nat×X))(n:Nat):xH f t sz z m ps n=(partsOf f (ps.map λp=>(p.1*sz,sz,p.2))).bind λl=>(lay l (List.replicate m z).flatten).bind λcs=>some (.fm n 0 sz 0 m,.new (.row t 0 cs)):=by
 unfold xH;cases partsOf f (ps.map λp=>(p.1*sz,sz,p.2))with
 | none=>rfl
 | some l=>simp only[Option.bind_some];cases lay l (List.replicate m z).flatten<;>rfl
@[simp] theorem atM(f:gj):partsOf f []=some []:=rfl
@[simp] theorem atL(f:gj)(o n:Nat)(x:X)(r:List (Nat×Nat×X)):partsOf f ((o,n,x)::r)=(cellsOf (ev f x)).bind λcs=>(partsOf f r).bind λl=>some ((o,n,cs)::l):=by show(match cellsOf (ev f x),partsOf f r with|some cs,some l=>some ((o,n,cs)::l)|_,_=>none)=_;cases cellsOf (ev f x)<;>cases partsOf f r<;>rfl
@[simp] theorem adl(vs:List Value)(k:IntKind)(n:Int):lV 1 (.kZ vs) (.val (.int k n))=if 0<=n/\n<vs.length then some (.fH [.val (vs.getD n.toNat undef)])else none:=by simp[lV]
@[simp] theorem arK(vs:List Value)(H:U):mB .slice (.kZ vs) H=some (.i vs.length):=rfl
@[simp] theorem aqI(sz v g off len:Nat)(k:IntKind)(n:Int):lV sz (.fm v g sz off len) (.val (.int k n))=if 0<=n/\n<len then some (.ptr v g ((off+n.toNat)*sz))else none:=by simp[lV]
@[simp] theorem aqK(sz n v g o:Nat)(k:IntKind)(i:Int):Fe sz n (.ptr v g o) (.val (.int k i))=if 0<=i/\i<n then some (.ptr v g (o+i.toNat*sz))else none:=rfl
@[simp] theorem aqJ(sz n:Nat)(cs:List D)(k:IntKind)(i:Int):Fe sz n (.fH cs) (.val (.int k i))=if 0<=i/\i<n then some (.fH (cs.drop (i.toNat*sz)))else none:=rfl
@[simp] theorem aqL(sz n:Nat)(b:Bool)(cs:List D)(k:IntKind)(i:Int):Lu sz n b (.agg cs) (.val (.int k i))=if 0<=i/\i<n then zu (i.toNat*sz) sz b (.agg cs)else none:=rfl
@[simp] theorem aoa(f:gj)(n:Int):gF f none n=some n:=rfl
def sF:D->Option Int
 | .val (.int _ n)=>some n
 | _=>none
@[simp] theorem aqN(k:IntKind)(n:Int):sF (.val (.int k n))=some n:=rfl
@[simp] theorem Sn(f:gj)(x:X)(n:Int):gF f (some x) n=sF (ev f x):=by show(match ev f x with | .val (.int _ n)=>some n|_=>none)=_;unfold sF;split<;>simp_all
@[simp] theorem QW(f:gj)(sz:Nat)(es:List (List D))(lo hi:Option X):sR f sz (.sl sz es) lo hi=(gF f lo 0).bind λl=>(gF f hi es.length).bind λh=>if 0<=l/\l<=h/\h<=es.length then some (.sl sz ((es.drop l.toNat).take (h.toNat-l.toNat)))else none:=by simp only[sR];cases gF f lo 0<;>cases gF f hi es.length<;>simp
@[simp] theorem avl(f:gj)(sz v g off len:Nat)(lo hi:Option X):sR f sz (.fm v g sz off len) lo hi=(gF f lo 0).bind λl=>(gF f hi len).bind λh=>if 0<=l/\l<=h/\h<=len then some (.fm v g sz (off+l.toNat) (h.toNat-l.toNat))else none:=by simp only[sR];cases gF f lo 0<;>cases gF f hi len<;>simp
@[simp] theorem avk(f:gj)(sz:Nat)(lo hi:Option X):sR f sz .fw lo hi=(gF f lo 0).bind λl=>(gF f hi 0).bind λh=>if l=0/\h=0 then some .fw else none:=by simp only[sR];cases gF f lo 0<;>cases gF f hi 0<;>simp
@[simp] theorem akn(f:gj)(sz:Nat)(es:List (List D))(lo:Option X)(hi mx:X):xf f sz (.sl sz es) lo hi mx=(gF f lo 0).bind λl=>(sF (ev f hi)).bind λh=>(sF (ev f mx)).bind λm=>if 0<=l/\l<=h/\h=m/\m<=es.length then some (clip sz ((es.drop l.toNat).take (h.toNat-l.toNat)))else none:=by simp only[xf,Sn];cases gF f lo 0<;>cases sF (ev f hi)<;>cases sF (ev f mx)<;>simp
@[simp] theorem avf(f:gj)(sz:Nat)(lo:Option X)(hi mx:X):xf f sz .fw lo hi mx=(gF f lo 0).bind λl=>(sF (ev f hi)).bind λh=>(sF (ev f mx)).bind λm=>if l=0/\h=0/\m=0 then some .fw else none:=by simp only[xf,Sn];cases gF f lo 0<;>cases sF (ev f hi)<;>cases sF (ev f mx)<;>simp
@[simp] theorem avg(f:gj)(sz n v g o:Nat)(lo hi:Option X)(H:U):yR f sz n (.ptr v g o) lo hi H=(gF f lo 0).bind λl=>(gF f hi n).bind λh=>(rowAt H v g).bind λp=>if o % sz=0/\o+n*sz<=p.2.length/\n<=16777216/\0<=l/\l<=h/\h<=n then some (.fm v g sz (o / sz+l.toNat) (h.toNat-l.toNat))else none:=by
 simp only[yR]
 cases gF f lo 0 with
 | none=>rfl
 | some l=>cases gF f hi n with
  | none=>rfl
  | some h=>dsimp only;cases rowAt H v g<;>rfl
theorem Mr{α:Type}(f:α->List D)(l:List α)(a b:Nat):((l.map f).drop a).take b=((l.drop a).take b).map f:=by rw[List.map_take,List.map_drop]
@[simp] theorem avi(f:gj)(l:List Pos)(lo hi:Option X):sR f 5 (gC l) lo hi=(gF f lo 0).bind λa=>(gF f hi l.length).bind λh=>if 0<=a/\a<=h/\h<=l.length then some (gC ((l.drop a.toNat).take (h.toNat-a.toNat)))else none:=by unfold gC;rw[QW,List.length_map];simp only[Mr]
@[irreducible] def cl{α:Type}(f:α->List D)(l:List α):List D:=(l.map f).flatten
theorem na{α:Type}(f:α->List D)(l:List α):cl f l=(l.map f).flatten:=by rw[cl]
@[simp] theorem akr(sz:Nat)(H:U)(es:List (List D)):ki sz H (.sl sz es)=some (es.flatten,es.length):=by simp[ki]
@[simp] theorem Gh{α:Type}(sz:Nat)(f:α->List D)(H:U)(l:List α):ki sz H (.sl sz (l.map f))=some (cl f l,l.length):=by rw[akr,List.length_map,na]
@[simp] theorem avm(H:U)(l:List Int):ki 1 H (dI l)=some (cl f1 l,l.length):=by unfold dI;exact Gh ..
@[simp] theorem avp(H:U)(l:List Pos):ki 5 H (gC l)=some (cl Pos.cells l,l.length):=by unfold gC;exact Gh ..
@[simp] theorem avn{α:Type}(sz:Nat)(f:α->List D)(H:U)(l:List α):ki sz H (dN sz f l)=some (cl f l,l.length):=by
 cases l with
 | nil=>show some ([],0)=_;rw[na];rfl
 | cons a l=>exact Gh sz f H (a::l)
@[simp] theorem avr(sz:Nat)(H:U):ki sz H .fw=some ([],0):=rfl
@[simp] theorem avt(sz:Nat)(H:U)(v g off len:Nat):ki sz H (.fm v g sz off len)=(rowAt H v g).bind λp=>if (off+len)*sz<=p.2.length then some ((p.2.drop (off*sz)).take (len*sz),len)else none:=by simp only[ki];cases rowAt H v g<;>simp
@[simp] theorem anz(t sz bytes v g len:Nat)(y:D)(H:U)(a:Nat):rr t sz bytes (.fm v g sz 0 len) y H a=(ki sz H y).bind λq=>(rowAt H v g).bind λr=>if r.1=t/\len*sz<=r.2.length/\(len+q.2)*bytes<=140737488355328/\len+q.2<=9223372036854775807 then some (.fm v (g+1) sz 0 (len+q.2),.obj v (.row t (g+1) (r.2.take (len*sz)++q.1)))else none:=by
 simp only[rr]
 cases ki sz H y with
 | none=>rfl
 | some q=>cases rowAt H v g<;>simp
@[simp] theorem YP(t bytes:Nat)(vs:List Value)(y:D)(H:U)(a:Nat):rr t 1 bytes (.kZ vs) y H a=(ki 1 H y).bind λq=>if q.2≠0/\(vs.length+q.2)*bytes<=140737488355328/\vs.length+q.2<=9223372036854775807 then some (.fm a 0 1 0 (vs.length+q.2),.new (.row t 0 (vs.map .val++q.1)))else none:=by simp only[rr];cases ki 1 H y<;>simp
@[simp] theorem ant(t sz bytes:Nat)(y:D)(H:U)(a:Nat):rr t sz bytes .fw y H a=(ki sz H y).bind λq=>if q.2=0 then some (.fw,.no)else if q.2*bytes<=140737488355328/\q.2<=9223372036854775807 then some (.fm a 0 sz 0 q.2,.new (.row t 0 q.1))else none:=by simp only[rr];cases ki sz H y<;>rfl
@[simp] theorem asm(t sz bytes:Nat)(z:List D)(k a:IntKind)(n m:Int)(v:Nat):Cy t sz bytes z (.val (.int k n)) (.val (.int a m)) v=if 0<=n/\n<=m/\pE m 9223372036854775807/\pE ((bytes:Int)*m) 281474976710656 then some (.fm v 0 sz 0 n.toNat,.new (.row t 0 (List.replicate m.toNat z).flatten))else none:=rfl
@[simp] theorem arE(n:Int)(k:Nat):pE n k=(n<=(k:Int)):=rfl
@[simp] theorem aqP(f:gj):p9 f []=some []:=rfl
def Py:D->Option Int
 | .val (.int .i64 n)=>some n
 | _=>none
@[simp] theorem aqH(n:Int):Py (.i n)=some n:=rfl
@[simp] theorem aqO(f:gj)(x:X)(r:List X):p9 f (x::r)=(Py (ev f x)).bind λn=>(p9 f r).bind λl=>some (n::l):=by
 show(match ev f x,p9 f r with | .val (.int .i64 n),some l=>some (n::l)|_,_=>none)=_;unfold Py;split
 .rename_i h1 b;rw[h1,b];rfl
 .rename_i h;split
  .rename_i n a
   cases hl:p9 f r with
   | none=>rfl
   | some l=>exact absurd hl (h _ _ a)
  .rfl
def P8(d:Bool):List Int->Option D
 | [a,b]=>some (.i (if d then max a b else min a b))
 | [a,b,c]=>some (.i (if d then max (max a b) c else min (min a b) c))
 | _=>none
@[simp] theorem mm2(m:Bool)(a b:Int):P8 m [a,b]=some (.i (if m then max a b else min a b)):=rfl
@[simp] theorem asl(f:gj)(m:Bool)(xs:List X):Cx f m xs=(p9 f xs).bind (P8 m):=by
 unfold Cx
 cases p9 f xs with
 | none=>rfl
 | some l=>simp only[Option.bind_some];unfold P8;split<;>simp_all
@[simp] theorem aon(f:gj)(g:FuncId)(args:List X):jS f (.call g args)=some (g,args.map (ev f)):=rfl
def JR(args:List D):D->Option (FuncId×List D)
 | .fn (.func k) first cap=>some (k,first++args++cap)
 | _=>none
@[simp] theorem aom(args:List D)(k:FuncId)(first cap:List D):JR args (.fn (.func k) first cap)=some (k,first++args++cap):=rfl
@[simp] theorem Zl(f:gj)(g:X)(args:List X):jS f (.callv g args)=JR (args.map (ev f)) (ev f g):=by show(match ev f g with | .fn (.func k) first cap=>some (k,first++args.map (ev f)++cap)|_=>none)=_;unfold JR;split<;>simp_all
def PN(z:D)(ok:Bool):Option D->D
 | some d=>if ok then .tup [d,.b true]else d
 | none=>if ok then .tup [z,.b false]else z
@[simp] theorem ar4(z:D)(ok:Bool)(d:D):PN z ok (some d)=if ok then .tup [d,.b true]else d:=rfl
@[simp] theorem ar3(z:D)(ok:Bool):PN z ok none=if ok then .tup [z,.b false]else z:=rfl
@[simp] theorem ar5(kk:KK)(z:D)(ok:Bool)(v:Nat)(k:D)(H:U):Ar kk z ok (.fV v) k H=(keyOf k).bind λkv=>(kK H v).bind λp=>if p.1=kk/\p.1.has kv=true then some (PN z ok (pG p.2 kv))else none:=by
 unfold Ar
 cases keyOf k with
 | none=>rfl
 | some kv=>
  cases h:kK H v with
  | none=>simp[h]
  | some p=>
   simp only[h,Option.bind_some];split
   .cases pG p.2 kv<;>rfl
   .rfl
@[simp] theorem ash(kk:KK)(v:Nat)(k x:D)(H:U):yC kk (.fV v) k x H=(keyOf k).bind λkv=>(kK H v).bind λp=>if p.1=kk/\p.1.has kv=true then some (.any,.obj v (.map p.1 (lI p.2 kv x)))else none:=by
 unfold yC
 cases keyOf k with
 | none=>rfl
 | some kv=>cases h:kK H v<;>simp[h]
def mapOf:Option Ob->Option (KK×List (Value×D))
 | some (.map kk es)=>some (kk,es)
 | _=>none
@[simp] theorem asg(kk:KK)(es:List (Value×D)):mapOf (some (.map kk es))=some (kk,es):=rfl
@[simp] theorem PW(H:U)(v:Nat):kK H v=mapOf H[v]? := by unfold kK mapOf;split<;>simp_all
@[simp] theorem ari(k:IntKind)(n:Int):qw (.int k n) = .val (.int k n):=rfl
@[simp] theorem ark(s:ByteArray):qw (.string s) = .val (.string s):=rfl
@[simp] theorem arh(b:Bool):qw (.bool b) = .b b:=rfl
@[simp] theorem aro(s:ByteArray):keyOf (.val (.string s))=some (.string s):=rfl
@[simp] theorem arl(b:Bool):keyOf (.b b)=some (.bool b):=rfl
@[simp] theorem arn(k:IntKind)(n:Int):keyOf (.val (.int k n))=some (.int k n):=rfl
@[simp] theorem arJ(v:Nat)(H:U):mB .map (.fV v) H=(kK H v).bind λp=>some (.i p.2.length):=by simp only[mB];cases kK H v<;>rfl
@[simp] theorem apI(ls:List lQ)(neg:Bool)(x y:D):zn false ls neg x y=(lS ls [x] [y]).bind λr=>some (.b (if neg then !r else r)):=by simp only[zn];cases lS ls [x] [y]<;>rfl
@[simp] theorem apH(ls:List lQ)(neg:Bool)(x y:List D):zn true ls neg (.agg x) (.agg y)=(lS ls x y).bind λr=>some (.b (if neg then !r else r)):=by simp only[zn];cases lS ls x y<;>rfl
@[simp] theorem aot:lS [] [] []=some true:=rfl
@[simp] theorem aos(l:lQ)(ls:List lQ)(x y:D)(xs c:List D):lS (l::ls) (x::xs) (y::c)=(s0 l x y).bind λa=>(lS ls xs c).bind λb=>some (a&&b):=by show(match s0 l x y,lS ls xs c with|some a,some b=>some (a&&b)|_,_=>none)=_;cases s0 l x y<;>cases lS ls xs c<;>rfl
@[simp] theorem aoq(a b:Int):s0 .int (.i a) (.i b)=some (decide (a=b)):=by simp[s0,BEq.beq]
@[simp] theorem aoo(a b:Bool):s0 .bool (.b a) (.b b)=some (a == b):=rfl
@[simp] theorem aor(a b:ByteArray):s0 .str (.val (.string a)) (.val (.string b))=some (a.data.toList == b.data.toList):=rfl
attribute [simp] gf kill tw CL gi jm tJ uC sY sX lL LO lay Al.last pG lI mJ KK.has fR
@[simp] theorem awb(v g sz off n:Nat):mC (.fm v g sz off n) = [(v,none)]:=rfl
@[simp] theorem awa(v:Nat):mC (.fV v) = [(v,none)]:=rfl
@[simp] theorem awd(sz:Nat)(es:List (List D)):mC (.sl sz es) = []:=rfl
@[simp] theorem av8:mC .fw = []:=rfl
@[simp] theorem awe(v:Value):mC (.val v) = []:=rfl
@[simp] theorem av5(cs:List D):mC (.agg cs) = []:=rfl
@[simp] theorem av9(cs:List D):mC (.fH cs) = []:=rfl
@[simp] theorem awc(v g o:Nat):mC (.ptr v g o) = []:=rfl
@[simp] theorem av7(l:List Int):mC (dI l) = []:=by unfold dI;rfl
def XB(d:D)(P Q:Prop)(_:Tag (PProd.mk P Q)):Prop:=∃x,d = .b x/\(x=true->P)/\(x=false->Q)
def X2(x:Bool)(P Q:Prop)(_:Tag (PProd.mk P Q)):Prop:=(x=true->P)/\(x=false->Q)
@[simp] theorem alk(P Q:Prop):X2 true P Q .mk=P:=by simp[X2]
@[simp] theorem alh(P Q:Prop):X2 false P Q .mk=Q:=by simp[X2]
@[simp] theorem ali(x:Bool)(P Q:Prop):X2 (!x) P Q .mk=X2 x Q P .mk:=by cases x<;>simp[X2]
@[simp] theorem alj(x y:Bool)(P Q:Prop):X2 (!x || !y) P Q .mk=X2 (x&&y) Q P .mk:=by cases x<;>cases y<;>simp[X2]
theorem X2.d{p:Prop}[Decidable p]{P Q:Prop}(h:p->P)(k:¬p->Q):X2 (decide p) P Q .mk:=⟨λe=>h (of_decide_eq_true e),λe=>k (of_decide_eq_false e)⟩
theorem X2.a{p q:Prop}[Decidable p][Decidable q]{P Q:Prop}(h:p->q->P)(k:¬(p/\q)->Q):X2 (decide p&&decide q) P Q .mk:=by rw[<-dp];exact X2.d (λe=>h e.1 e.2) k
theorem X2.o{p q:Prop}[Decidable p][Decidable q]{P Q:Prop}(h:p\/q->P)(k:¬(p\/q)->Q):X2 (decide p||decide q) P Q .mk:=by rw[<-eZ];exact X2.d h k
theorem X2.z{p:Prop}[Decidable p]{P Q:Prop}(h:¬p)(k:Q):X2 (decide p) P Q .mk:=X2.d (λn=>absurd n h) (λ_=>k)
@[simp] theorem aln(x:Bool)(a b:D)(P Q:Prop):XB (bif x then a else b) P Q .mk=X2 x (XB a P Q .mk) (XB b P Q .mk) .mk:=by cases x<;>simp
theorem X2.b{x:Bool}{P Q:Prop}(h:x=true->P)(k:x=false->Q):X2 x P Q .mk:=⟨h,k⟩
theorem Xg{p q:Prop}(b:q)(a:p:=by first|omega|assumption):p/\q:=⟨a,b⟩
@[simp] theorem alm(x:Bool)(P Q:Prop):XB (.b x) P Q .mk=X2 x P Q .mk:=by cases x<;>simp[XB,X2]
@[simp high] theorem alp(P Q:Prop):XB (.b true) P Q .mk=P:=by simp[XB]
@[simp high] theorem alo(P Q:Prop):XB (.b false) P Q .mk=Q:=by simp[XB]
def XG(g:Option Bool)(P Q:Prop)(_:Tag (PProd.mk P Q)):Prop:=∃x,g=some x/\(x=true->P)/\(x=false->Q)
@[simp] theorem alG(x:Bool)(P Q:Prop):XG (some x) P Q .mk=X2 x P Q .mk:=by cases x<;>simp[XG,X2]
@[simp high] theorem alJ(P Q:Prop):XG (some true) P Q .mk=P:=by simp[XG]
@[simp high] theorem alI(P Q:Prop):XG (some false) P Q .mk=Q:=by simp[XG]
@[simp] theorem alH(x w:Bool)(a b:D)(P Q:Prop):XG (gB (bif x then a else b) w) P Q .mk=X2 x (XG (gB a w) P Q .mk) (XG (gB b w) P Q .mk) .mk:=by cases x<;>simp
def kp(s:St)(dst:Option Nat)(K:St->Prop):D×Dl->Prop:=λp=>K { s with env:=put s.env dst p.1,H:=p.2.app s.H (Al.last s.H) }
def kt(s:St)(dst:Option Nat)(R:List Fp)(Q:Rc->St->Prop):D×Dl->Prop:=λp=>Q ⟨R,jm s.H.length p.2⟩ { s with env:=put s.env dst p.1,H:=p.2.app s.H (Al.last s.H) }
section
variable(T:gO)
def fL(f:FuncId)(args:List D)(dst:Option Nat)(s:St)(K:St->Prop)(_:Tag (dst,s,K)):Prop:=
 (∃fn,T.fn f=some fn/\fn.full=false/\Wf T f (args.map (fy (λ_=>none) s.H 40)) [] λd Hn=>oA (after s dst args d Hn) K .mk) \/
 (∃fn,T.fn f=some fn/\fn.full=true/\Wf T f args s.H λd H'=>K { s with env:=put s.env dst d,H:=H' })
def iy(f:FuncId)(args:List D)(R:List Fp)(dst:Option Nat)(s:St)(Q:Rc->St->Prop)(_:Tag (dst,s,Q)):Prop:=
 ∃fn d,T.fn f=some fn/\fn.full=false/\Wf T f (args.map (fy (λ_=>none) s.H 40)) [] (λd' Hn=>d'=d/\Hn = [])/\(if fR args then closed d else flat d)=true/\Q ⟨R,[]⟩ { s with env:=put s.env dst d }
def uW(f:FuncId)(args:List D)(R:List Fp)(dst:Option Nat)(s:St)(Q:Rc->St->Prop)(t:Tag (dst,s,Q)):Prop:=
 iy T f args R dst s Q t\/∃fn d ob,T.fn f=some fn/\fn.full=false/\Wf T f (args.map (fy (λ_=>none) s.H 40)) [] (λd' Hn=>d'=d/\Hn = [ob]) /\
  (if fR args then ma d&&nb ob else nO d&&oJ ob)=true/\Q ⟨R,[(s.H.length,none)]⟩ { s with env:=put s.env dst (jQ s.H.length d),H:=s.H ++ [ob] }
def sW(f:FuncId)(args:List D)(R:List Fp)(dst:Option Nat)(s:St)(Q:Rc->St->Prop)(t:Tag (dst,s,Q)):Prop:=
 uW T f args R dst s Q t\/∃fn d v,T.fn f=some fn/\fn.full=false/\(∀u∈(args.map (gN s.H 40)).flatten,u=v)/\v∈(args.map (gN s.H 40)).flatten/\(rowsOf s.H v).isSome=true /\
  fR (args.map (fy (λ_=>none) s.H 40))=true/\Wf T f (args.map (fy (λ_=>none) s.H 40)) [] (λd' Hn=>d'=d/\Hn = [])/\closed d=true/\Q ⟨R,[(v,none)]⟩ { s with env:=put s.env dst d,H:=s.H.set v .dead }
def AM(v rf:Nat)(dst:Option Nat)(s:St)(K:St->Prop):iq:=λo=>∃a,o.st.H[v]? = some (.gM rf a .busy)/\K { s with env:=put s.env dst (.b !o.stop),H:=o.st.H.set v (.gM rf a o.yO) }
def rl(v:Nat)(args:List D)(dst:Option Nat)(s:St)(K:St->Prop)(_:Tag (dst,s,K)):Prop:=
 ∃rf env0 Rd,s.H[v]? = some (.gM rf env0 .ready)/\T.round rf=some Rd/\args.length=Rd.params.length /\
  Wc T Rd.a { env:=sQ Rd.params args env0,H:=s.H,gW:=true } λo=>∃s1 a,o = .norm s1/\s1.H[v]? = some (.gM rf a .ready)/\Wc T Rd.b { s1 with H:=s1.H.set v (.gM rf a .busy) } (AM v rf dst s K)
def uV(d:D)(args:List D)(dst:Option Nat)(s:St)(K:St->Prop)(t:Tag (dst,s,K)):Prop:=
 match d with
 | .iw v=>rl T v args dst s K t
 | d=>oA (JR args d) (λp=>fL T p.1 p.2 dst s K t) .mk
def tH(x:D)(dst:Option Nat)(s:St)(K:St->Prop)(_:Tag (dst,s,K)):Prop:=
 ∃v m since seen kk es,x = .ptr v 0 0/\s.H[v]? = some (.iM (.fV m) since seen)/\s.H[m]? = some (.map kk es)/\es.length=since /\
  ((∀i,i<es.length->i∈seen)->K { s with env:=put s.env dst (.tup [.b false]) }) /\
  (∀i k d,es[i]? = some (k,d)->i ∉ seen->K { s with env:=put s.env dst (.tup [.b true,qw k,d]),H:=s.H.set v (.iM (.fV m) since (seen ++ [i])) })
def ij(op:gZ)(dst:Option Nat)(s:St)(K:St->Prop):Prop:=
 match op with
 | .call f args=>fL T f (args.map (ev s.env.get)) dst s K .mk
 | .callN f args=>fL T f (args.map (ev s.env.get)) dst s K .mk
 | .callv f args=>uV T (ev s.env.get f) (args.map (ev s.env.get)) dst s K .mk
 | .nilS a b=>oA (lL s.env.get s.H s.H.length (.nilS a b)) (kp s dst K) .mk
 | .capE a=>oA (lL s.env.get s.H s.H.length (.capE a)) (kp s dst K) .mk
 | .appZ a b c d e f=>oA (lL s.env.get s.H s.H.length (.appZ a b c d e f)) (kp s dst K) .mk
 | .clr a b c=>oA (lL s.env.get s.H s.H.length (.clr a b c)) (kp s dst K) .mk
 | .rangeS a=>oA (lL s.env.get s.H s.H.length (.rangeS a)) (kp s dst K) .mk
 | .nextS a=>oA (lL s.env.get s.H s.H.length (.nextS a)) (kp s dst K) .mk
 | .rangeM a=>oA (lL s.env.get s.H s.H.length (.rangeM a)) (kp s dst K) .mk
 | .entry a=>oA (lL s.env.get s.H s.H.length (.entry a)) (kp s dst K) .mk
 | .mapEnt a b c d=>oA (lL s.env.get s.H s.H.length (.mapEnt a b c d)) (kp s dst K) .mk
 | .entSt a b c=>oA (lL s.env.get s.H s.H.length (.entSt a b c)) (kp s dst K) .mk
 | .nextM a=>tH (ev s.env.get a) dst s K .mk
 | op=>oA (gf s.env.get s.H s.H.length op) (kp s dst K) .mk
def jk(op:gZ)(dst:Option Nat)(s:St)(Q:Rc->St->Prop):Prop:=
 match op with
 | .call f args=>iy T f (args.map (ev s.env.get)) (gi s.env.get s.H (.call f args)) dst s Q .mk
 | .callN f args=>sW T f (args.map (ev s.env.get)) (gi s.env.get s.H (.callN f args)) dst s Q .mk
 | .callv f args=>oA (jS s.env.get (.callv f args)) (λp=>iy T p.1 p.2 (gi s.env.get s.H (.callv f args)) dst s Q .mk) .mk
 | op=>oA (gf s.env.get s.H s.H.length op) (kt s dst (gi s.env.get s.H op) Q) .mk
def XO:List gy->St->(St->Prop)->Prop
 | [],s,K=>K s
 | e::r,s,K=>XG (guardOf s.env.get e.guard) (ij T e.op e.dst s λa=>XO r a K) (XO r { s with env:=put s.env e.dst (.val undef) } K) .mk
def XT:List gy->St->(List Rc->St->Prop)->Prop
 | [],s,K=>K [] s
 | e::r,s,K=>XG (guardOf s.env.get e.guard) (jk T e.op e.dst s λrc b=>XT r b λrs a=>K (rc::rs) a) (XT r { s with env:=put s.env e.dst (.val undef) } λrs a=>K (⟨[],[]⟩::rs) a) .mk
end
section
variable{T:gO}
theorem Qc{α:Type}{x:Option α}{P Q:α->Prop}{t:Tag P}{u:Tag Q}(h:oA x P t)(hi:∀a,P a->Q a):oA x Q u:=by obtain⟨a,h1,b⟩:=h;exact⟨a,h1,hi a b⟩
theorem fL.mono{f:FuncId}{args:List D}{dst:Option Nat}{s:St}{K c:St->Prop}{t:Tag (dst,s,K)}{u:Tag (dst,s,c)}(h:fL T f args dst s K t)(hi:∀s,K s->c s):fL T f args dst s c u:=by
 rcases h with⟨fn,b,a,h⟩|⟨fn,b,a,h⟩
 .exact .inl ⟨fn,b,a,Wf.mono h λd Hn h=>Qc h hi⟩
 .exact .inr ⟨fn,b,a,Wf.mono h λd H h=>hi _ h⟩
theorem rl.mono{v:Nat}{args:List D}{dst:Option Nat}{s:St}{K a:St->Prop}{t:Tag (dst,s,K)}{u:Tag (dst,s,a)}(h:rl T v args dst s K t)(hi:∀s,K s->a s):rl T v args dst s a u:=by obtain⟨rf,env0,Rd,d,f,hl,h⟩:=h;exact⟨rf,env0,Rd,d,f,hl,h.mono λo ⟨s1,b,e,h1,j⟩=>⟨s1,b,e,h1,j.mono λo ⟨c,i,g⟩=>⟨c,i,hi _ g⟩⟩⟩
theorem uV.mono{d:D}{args:List D}{dst:Option Nat}{s:St}{K a:St->Prop}{t:Tag (dst,s,K)}{u:Tag (dst,s,a)}(h:uV T d args dst s K t)(hi:∀s,K s->a s):uV T d args dst s a u:=by
 unfold uV at h ⊢;split at h
 .exact rl.mono h hi
 .exact Qc h λp b=>fL.mono b hi
theorem tH.mono{x:D}{dst:Option Nat}{s:St}{K a:St->Prop}{t:Tag (dst,s,K)}{u:Tag (dst,s,a)}(h:tH x dst s K t)(hi:∀s,K s->a s):tH x dst s a u:=by obtain⟨v,m,since,seen,kk,es,h1,g,f,e,c,b⟩:=h;exact⟨v,m,since,seen,kk,es,h1,g,f,e,λh=>hi _ (c h),λi k d l j=>hi _ (b i k d l j)⟩
theorem ij.mono{op:gZ}{dst:Option Nat}{s:St}{K a:St->Prop}(h:ij T op dst s K)(hi:∀s,K s->a s):ij T op dst s a:=by
 unfold ij at h ⊢
 split at h<;>first
  | exact fL.mono h hi
  | exact uV.mono h hi
  | exact tH.mono h hi
  | exact Qc h λp b=>hi _ b
theorem XO.mono:∀ {l:List gy} {s:St} {K a:St->Prop},XO T l s K->(∀s,K s->a s)->XO T l s a
 | [],s,K,a,h,hi=>hi s h
 | e::r,s,K,a,h,hi=>by obtain⟨x,hg,b,c⟩:=h;exact⟨x,hg,λe=>ij.mono (b e) λd h=>XO.mono h hi,λe=>XO.mono (c e) hi⟩
theorem fL.wo{f:FuncId}{args:List D}{s:St}{K:St->Prop}{e:gy}{r:List gy}(hg:guardOf s.env.get e.guard=some true)(k:jS s.env.get e.op=some (f,args))(h:fL T f args e.dst s (λg=>Wo T r g K) .mk):Wo T (e::r) s K:=by
 rcases h with⟨fn,j,i,h⟩|⟨fn,j,i,h⟩
 .refine Ev.DN hg k j i h (λd Hn b=>?_) λd Hn g b l=>?_
  .obtain⟨d',H',a,g,hs,c⟩:=b;cases a;rw[hs];rfl
  .obtain⟨d',H',a,m,hs,c⟩:=b;cases a;rw[hs]at l;cases l;exact c
 .exact Ev.DM hg k j i h λd H' b=>by obtain⟨d',H2,a,c⟩:=b;cases a;exact c
theorem XO.vL{l2:List gy}{K:St->Prop}:∀ {l:List gy} {s:St},XO T l s (λb=>Wo T l2 b K)->Wo T (l++l2) s K
 | [],s,h=>h
 | e::r,s,h=>by
  obtain⟨x,hg,F,t⟩:=h
  cases x with
  | false=>exact Wo.off hg (XO.vL (t rfl))
  | true=>
   have h:=F rfl;have plain:oA (gf s.env.get s.H s.H.length e.op) (kp s e.dst λb=>XO T r b λb=>Wo T l2 b K) .mk->Wo T (e::r++l2) s K:=λ⟨⟨d,δ⟩,z,y⟩=>Wo.op hg z (XO.vL y);have sp:oA (lL s.env.get s.H s.H.length e.op) (kp s e.dst λb=>XO T r b λb=>Wo T l2 b K) .mk->Wo T (e::r++l2) s K:=λ⟨⟨d,δ⟩,z,y⟩=>Wo.AW hg z (XO.vL y)
   have call:∀f args,jS s.env.get e.op=some (f,args)->fL T f args e.dst s (λb=>XO T r b λb=>Wo T l2 b K) .mk->Wo T (e::r++l2) s K:=λf args G D=>by
    refine fL.wo hg G ?_;rcases D with⟨fn,t,q,h⟩|⟨fn,t,q,h⟩
    .exact .inl ⟨fn,t,q,Wf.mono h λd Hn ⟨b,h1,g⟩=>⟨b,h1,XO.vL g⟩⟩
    .exact .inr ⟨fn,t,q,Wf.mono h λd Hn h1=>XO.vL h1⟩
   unfold ij at h;split at h
   case h_1 f args c=>exact call _ _ (by rw[c];rfl) h
   case h_2 f args c=>exact call _ _ (by rw[c];rfl) h
   case h_3 f args c=>
    unfold uV at h;split at h
    .rename_i v E;obtain⟨rf,env0,Rd,B,H,hl,h⟩:=h;have C:yieldOf s.env.get e.op=some (v,args.map (ev s.env.get)):=by rw[c];simp only[yieldOf,E]
     refine Ev.JQ hg C B H hl h (λo ⟨o',j,s1,A,u,h1,g⟩=>?_) (Rb:=PO (AM v rf e.dst s λb=>XO T r b λb=>Wo T l2 b K)) (λs1 A ⟨o',j,N,w,u,h1,g⟩ n=>?_) (λo ⟨o',j,w,h1,g⟩=>?_) λo w ⟨o',j,M,h1,g⟩ n=>?_
     .cases j;subst u;exact⟨rfl,A,h1⟩
     .cases j;cases u;rw[h1]at n;cases n;exact g
     .cases j;exact⟨w,h1⟩
     .cases j;rw[h1]at n;cases n;exact XO.vL g
    .rename_i O;obtain⟨p,q,h⟩:=h;exact call p.1 p.2 (by rw[c,Zl];exact q) h
   case h_14 a c=>
    obtain⟨v,m,since,seen,kk,es,h1,g,n,L,J,I⟩:=h;exact Ev.next hg c h1 g n L (λk=>XO.vL (J k)) λi k d j u=>XO.vL (I i k d j u)
   case h_15=>exact plain h
   all_goals (rename_i c;exact sp (by rw[c];exact h))
theorem XO.wo{l:List gy}{s:St}{K:St->Prop}(h:XO T l s K):Wo T l s K:=by have:=XO.vL (l2:=[]) (K:=K) (XO.mono h λa k=>Wo.nil k);rwa [ay]at this
theorem XT.wt:∀ {l:List gy} {s:St} {K:List Rc->St->Prop},XT T l s K->Wt T l s K
 | [],s,K,h=>Wt.nil h
 | e::r,s,K,h=>by
  obtain⟨x,hg,w,g⟩:=h
  cases x with
  | false=>exact Wt.off hg (XT.wt (g rfl))
  | true=>
   have h:=w rfl
   have call:∀f args,jS s.env.get e.op=some (f,args)->iy T f args (gi s.env.get s.H e.op) e.dst s (λrc o=>XT T r o λrs n=>K (rc::rs) n) .mk->Wt T (e::r) s K:=λf args z ⟨fn,d,g,b,j,m,c⟩=>
    Ev.Gp hg z g b j (λd' Hn ⟨d2,H2,a,i⟩=>by cases a;exact i) m (XT.wt c) λrs o ⟨t,n,a,k⟩=>by cases a;exact⟨_,_,rfl,k⟩
   unfold jk at h;split at h
   case h_1 f args a=>exact call _ _ (by rw[a];rfl) (by rw[a];exact h)
   case h_2 f args a=>
    rcases h with(h|⟨fn,d,ob,g,b,j,m,c⟩)|⟨fn,d,v,g,b,hS,u,A,m,j,y,c⟩
    .exact call _ _ (by rw[a];rfl) (by rw[a];exact h)
    .exact Ev.Gq hg a rfl g b j (λd' Hn ⟨d2,H2,a,i⟩=>by cases a;exact i) m (XT.wt c) λrs o ⟨t,n,q,k⟩=>by cases q;rw[a];exact⟨_,_,rfl,k⟩
    .exact Ev.Gr hg a rfl g b hS u A m j (λd' Hn ⟨d2,H2,a,i⟩=>by cases a;exact i) y (XT.wt c) λrs o ⟨t,n,q,k⟩=>by cases q;rw[a];exact⟨_,_,rfl,k⟩
   case h_3 f args a=>obtain⟨p,b,h⟩:=h;exact call p.1 p.2 (by rw[a];exact b) (by rw[a];exact h)
   case h_4=>obtain⟨⟨d,δ⟩,i,c⟩:=h;exact Wt.op hg i (XT.wt c)
end
def kD:IR->IR
 | .seq a b=>.seq (kD a) (kD b)
 | .cond c a b=>.cond c (kD a) (kD b)
 | .block id live a=>.block id live (kD a)
 | .loop live a=>.loop live (kD a)
 | .fz _ a=>kD a
 | .tR _ a b=>.ops (a++b)
 | c=>c
def sL:IR->Bool
 | .seq a b=>sL a&&sL b
 | .cond _ a b=>sL a&&sL b
 | .block _ _ a=>sL a
 | .loop _ a=>sL a
 | .fz _ _=>false
 | .tR _ _ _=>false
 | _=>true
theorem oB:∀ {c:IR},sL c=true->kD c=c
 | .seq a b,h=>by simp only[sL,Bool.and_eq_true]at h;rw[kD,oB h.1,oB h.2]
 | .cond _ a b,h=>by simp only[sL,Bool.and_eq_true]at h;rw[kD,oB h.1,oB h.2]
 | .block _ _ a,h=>by rw[kD,oB (c:=a) h]
 | .loop _ a,h=>by rw[kD,oB (c:=a) h]
 | .fz _ _,h=>by cases h
 | .tR _ _ _,h=>by cases h
 | .skip,_ | .ops _,_ | .lh _ _,_ | .l5 _ _ _,_ | .mZ _ _ _,_ | .exit _,_ | .ret,_ | .bad,_=>rfl
def kQ(k:Nat):List gy->Bool
 | { dst:=some j,.. }::_=>decide (j=k)
 | _=>false
def ik(k:Nat)(S:List Nat):IR->IR
 | .ops l=>bif kQ k l then .fz S (.ops l)else .ops l
 | .lh p l=>bif kQ k l then .fz S (.lh p l)else .lh p l
 | .l5 p l e=>bif kQ k l then .fz S (.l5 p l e)else .l5 p l e
 | .seq a b=>.seq (ik k S a) (ik k S b)
 | .cond c a b=>.cond c (ik k S a) (ik k S b)
 | .block id live a=>.block id live (ik k S a)
 | .loop live a=>.loop live (ik k S a)
 | .fz d a=>.fz d (ik k S a)
 | c=>c
theorem yT(k:Nat)(S:List Nat):∀c:IR,kD (ik k S c)=kD c
 | .ops l=>by unfold ik;cases kQ k l<;>rfl
 | .lh p l=>by unfold ik;cases kQ k l<;>rfl
 | .l5 p l e=>by unfold ik;cases kQ k l<;>rfl
 | .seq a b=>by simp only[ik,kD,yT k S a,yT k S b]
 | .cond c a b=>by simp only[ik,kD,yT k S a,yT k S b]
 | .block id live a=>by simp only[ik,kD,yT k S a]
 | .loop live a=>by simp only[ik,kD,yT k S a]
 | .fz d a=>by simp only[ik,kD,yT k S a]
 | .skip | .mZ _ _ _ | .exit _ | .ret | .bad | .tR _ _ _=>rfl
def me(k:Nat):List gy->List gy
 | []=>[]
 | e::r=>bif kQ k [e]then []else e::me k r
def mg(k:Nat):List gy->List gy
 | []=>[]
 | e::r=>bif kQ k [e]then e::r else mg k r
def mq(k:Nat):List gy->Bool
 | []=>false
 | e::r=>kQ k [e]||mq k r
theorem Sj(k:Nat):∀l:List gy,me k l++mg k l=l
 | []=>rfl
 | e::r=>by unfold me mg;cases kQ k [e]<;>simp[Sj k r]
def jG(k:Nat)(S:List Nat):IR->IR
 | .ops l=>bif mq k l then .tR S (me k l) (mg k l)else .ops l
 | .seq a b=>.seq (jG k S a) (jG k S b)
 | .cond c a b=>.cond c (jG k S a) (jG k S b)
 | .block id live a=>.block id live (jG k S a)
 | .loop live a=>.loop live (jG k S a)
 | .fz d a=>.fz d (jG k S a)
 | c=>c
theorem yU(k:Nat)(S:List Nat):∀c:IR,kD (jG k S c)=kD c
 | .ops l=>by unfold jG;cases mq k l<;>simp[kD,Sj]
 | .seq a b=>by simp only[jG,kD,yU k S a,yU k S b]
 | .cond c a b=>by simp only[jG,kD,yU k S a,yU k S b]
 | .block id live a=>by simp only[jG,kD,yU k S a]
 | .loop live a=>by simp only[jG,kD,yU k S a]
 | .fz d a=>by simp only[jG,kD,yU k S a]
 | .skip | .mZ _ _ _ | .exit _ | .ret | .bad | .tR _ _ _ | .lh _ _ | .l5 _ _ _=>rfl
def fE(T:gO)(live:List Nat)(a:IR)(s:St)(K:iq)(_:Tag (live,a,s,K)):Prop:=Wc T (.loop live (kD a)) s K
def xC(T:gO)(rf:Nat)(live:List Nat)(x:X)(s:St)(K:iq)(_:Tag (live,x,s,K)):Prop:=Wc T (.mZ rf live x) s K
@[irreducible] def vC(m S:List Nat):Bool:=m.all λv => !S.contains v
theorem Fv(m S:List Nat):vC m S=m.all λv => !S.contains v:=by unfold vC;rfl
@[simp] theorem aeb(S:List Nat):vC [] S=true:=by rw[Fv];rfl
@[simp] theorem asf(v:Nat)(m S:List Nat):vC (v::m) S=(!decide (v∈S)&&vC m S):=by rw[Fv,Fv,List.all_cons,List.contains_eq_mem]
def MY:D->List Nat
 | .agg cs=>(cs.map (iH 0)).flatten
 | _=>[]
@[simp] theorem ano(cs:List D):MY (.agg cs)=(cs.map (iH 0)).flatten:=rfl
def o4(env:Env):List Nat->List Nat
 | []=>[]
 | v::r=>if v<1000 then v::o4 env r else if v<2000 then iH 0 (env.get (v-1000))++o4 env r else MY (env.get (v-2000))++o4 env r
@[simp] theorem aqf(env:Env):o4 env [] = []:=rfl
@[simp] theorem aqe(env:Env)(v:Nat)(r:List Nat):o4 env (v::r)=if v<1000 then v::o4 env r else if v<2000 then iH 0 (env.get (v-1000))++o4 env r else MY (env.get (v-2000))++o4 env r:=rfl
def XC(T:gO):IR->St->iq->Prop
 | .skip,s,K=>K (.norm s)
 | .ops l,s,K=>XO T l s λd=>K (.norm d)
 | .lh iY l,s,K=>XT T l s λrs d=>uC iY rs=true/\K (.norm d)
 | .l5 iY l es,s,K=>XT T l s λrs d=>uC iY rs=true/\XO T es d λd=>K (.norm d)
 | .seq a b,s,K=>XC T a s λo=>match o with
  | .norm d=>XC T b d K
  | o=>K o
 | .cond c a b,s,K=>XB (ev s.env.get c) (XC T a s K) (XC T b s K) .mk
 | .block id live a,s,K=>XC T a s λo=>K (kN id s.H.length live o)
 | .loop live a,s,K=>fE T live a s K .mk
 | .mZ rf live x,s,K=>xC T rf live x s K .mk
 | .exit id,s,K=>K (.exit id s)
 | .ret,s,K=>K (.ret s)
 | .bad,_,_=>False
 | .fz S a,s,K=>vC s.marks (o4 s.env S)=true/\XC T a (lk (o4 s.env S) s) K
 | .tR S a b,s,K=>XO T a s λd=>vC d.marks (o4 d.env S)=true/\XO T b (lk (o4 d.env S) d) λd=>K (.norm d)
def LU(T:gO)(b:IR)(K:iq):iq:=λo=>match o with
 | .norm a=>XC T b a K
 | o=>K o
def vV(id n:Nat)(live:List Nat)(K:iq):iq:=λo=>K (kN id n live o)
section
variable{T:gO}
theorem Wc.lk{c:IR}{s:St}{K:iq}(S:List Nat)(a:vC s.marks S=true)(h:Wc T c (lk S s) K):Wc T c s K:=Ev.Ec S (by rwa [Fv]at a) h
theorem XC.wc:∀ {c:IR} {s:St} {K:iq},XC T c s K->Wc T (kD c) s K
 | .skip,s,K,h=>Wc.skip h
 | .ops l,s,K,h=>Wc.ops (XO.wo h)
 | .lh iY l,s,K,h=>Wc.lh (XT.wt h)
 | .l5 iY l es,s,K,h=>Wc.l5 (Ev.mono (XT.wt h) λ_ ⟨rs,d,q,k⟩=>⟨rs,d,q,k.1,XO.wo k.2⟩)
 | .seq a b,s,K,h=>Wc.seq ((XC.wc (c:=a) h).mono λo f=>by
  cases o with
  | norm d=>exact XC.wc (c:=b) f
  | exit=>exact f
  | ret=>exact f)
 | .cond _ _ _,_,_,h=>by obtain⟨x,g,i,j⟩:=h;exact Wc.cond x g (λe=>XC.wc (i e)) λe=>XC.wc (j e)
 | .block _ _ _,_,_,h=>Wc.block (XC.wc h)
 | .loop live a,s,K,h=>h
 | .mZ rf live x,s,K,h=>h
 | .exit id,s,K,h=>Wc.exit h
 | .ret,s,K,h=>Wc.ret h
 | .bad,s,K,h=>h.elim
 | .fz S a,s,K,h=>Wc.lk (o4 s.env S) h.1 (XC.wc (c:=a) h.2)
 | .tR S a b,s,K,h=>Wc.ops (XO.vL (XO.mono h λd k=>Ev.lk (o4 d.env S) (by have:=k.1;rwa [Fv]at this) (XO.wo k.2)))
def tv(ds:List D):D:=match ds with
 | [d]=>d
 | ds=>.tup ds
@[simp] theorem auj(d:D):tv [d]=d:=rfl
@[simp] theorem auk(d e:D):tv [d,e] = .tup [d,e]:=rfl
@[simp] theorem aul(d e f:D):tv [d,e,f] = .tup [d,e,f]:=rfl
@[simp] theorem aui:tv [] = .tup []:=rfl
def xU(rs:List tF)(own n:Nat)(K:D->U->Prop):iq:=λo=>match o with
 | .norm s | .ret s=>oA (kill s.marks s.H) (λH=>oA (tw { s with H:=H } rs) (λds=>K (leave own n H (tv ds)).1 (leave own n H (tv ds)).2) .mk) .mk
 | .exit _ _=>False
theorem Wf.xz(own:Nat){f:FuncId}{args:List D}{H:U}{fn:iE}{K:D->U->Prop}(c:IR)(g:T.fn f=some fn)(hl:args.length<=fn.ntmps)(i:kD c=fn.body)
  (h:XC T c { env:=sJ args,H:=H } (xU fn.results own H.length K)):Wf T f args H K:=by
 have key:∀s:St,(oA (kill s.marks s.H) (λH'=>oA (tw { s with H:=H' } fn.results) (λds=>K (leave own H.length H' (tv ds)).1 (leave own H.length H' (tv ds)).2) .mk) .mk)->∃d H',(match kill s.marks s.H with
  | some H1=>match results fn { s with H:=H1 }with
   | some d=>some (leave own H.length H1 d)
   | none=>none
  | none=>none)=some (d,H')/\K d H':=by
  rintro s ⟨H1,h1,ds,j,e⟩;rw[h1];refine⟨_,_,?_,e⟩;unfold AL.results;dsimp only;rw[j]
  cases ds with
  | nil=>rfl
  | cons a l=>cases l<;>rfl
 refine Wf.call own g hl (i▸(XC.wc h).mono λo b=>?_)
 cases o with
 | norm s=>exact key s b
 | ret s=>exact key s b
 | exit=>exact b.elim
theorem Wf.xo(own:Nat){f:FuncId}{args:List D}{H:U}{fn:iE}{K:D->U->Prop}(b:T.fn f=some fn)(hl:args.length<=fn.ntmps)
  (h:XC T fn.body { env:=sJ args,H:=H } (xU fn.results own H.length K)) (a:sL fn.body=true:=by rfl):Wf T f args H K:=Wf.xz own fn.body b hl (oB a) h
theorem Wf.x{f:FuncId}{args:List D}{H:U}{fn:iE}{K:D->U->Prop}(b:T.fn f=some fn)(hl:args.length<=fn.ntmps)
  (h:XC T fn.body { env:=sJ args,H:=H } (xU fn.results fn.own H.length K)) (a:sL fn.body=true:=by rfl):Wf T f args H K:=Wf.xo fn.own b hl h a
theorem fL.is{f:FuncId}{args:List D}{dst:Option Nat}{s:St}{K:St->Prop}{fn:iE}{K0:D->U->Prop}(b:T.fn f=some fn)(a:fn.full=false)(h:Wf T f (args.map (fy (λ_=>none) s.H 40)) [] K0)
  (k:∀d Hn,K0 d Hn->oA (after s dst args d Hn) K .mk):fL T f args dst s K .mk:=.inl ⟨fn,b,a,Wf.mono h k⟩
theorem fL.lG{f:FuncId}{args:List D}{dst:Option Nat}{s:St}{K:St->Prop}{fn:iE}{K0:D->U->Prop}(b:T.fn f=some fn)(a:fn.full=true)(h:Wf T f args s.H K0)
  (k:∀d H',K0 d H'->K { s with env:=put s.env dst d,H:=H' }):fL T f args dst s K .mk:=.inr ⟨fn,b,a,Wf.mono h k⟩
theorem fL.c{f:FuncId}{args:List D}{dst:Option Nat}{s:St}{K:St->Prop}{fn:iE}{x:D}(e:T.fn f=some fn)(c:fn.full=false)(h:Wf T f args [] λd H'=>d=x/\H' = [])
  (a:fR args=true) (b:closed x=true) (k:K { s with env:=put s.env dst x }):fL T f args dst s K .mk:=by
 refine fL.is e c (K0:=λd H'=>d=x/\H' = []) ?_ ?_
 .have i:args.map (fy (λ_=>none) s.H 40)=args:=by
   conv=>rhs;rw[<-aS args]
   exact ao λd g=>pj (lD a d g)
  rw[i];exact h
 .rintro d Hn ⟨rfl,rfl⟩;obtain⟨k1,k2⟩:=DQ (H:=s.H) b;refine⟨{ s with env:=put s.env dst d },?_,k⟩;unfold after;rw[if_pos a,k1,k2];simp
theorem fL.r{f:FuncId}{args ny:List D}{dst:Option Nat}{s:St}{K:St->Prop}{fn:iE}{x:D}(e:T.fn f=some fn)(c:fn.full=false)(h:Wf T f ny [] λd H'=>d=x/\H' = [])
  (hs:args.map (fy (λ_=>none) s.H 40)=ny) (b:flat x=true) (a:closed x=true) (k:K { s with env:=put s.env dst x }):fL T f args dst s K .mk:=by
 refine fL.is e c (K0:=λd H'=>d=x/\H' = []) (by rw[hs];exact h) ?_;rintro d Hn ⟨rfl,rfl⟩;obtain⟨k1,k2⟩:=DQ (H:=s.H) a;refine⟨{ s with env:=put s.env dst d },?_,k⟩;have:nO d=true:=(NP (H:=s.H) b).1;unfold after;rw[this,k1,k2];simp
theorem iy.c{f:FuncId}{args:List D}{R:List Fp}{dst:Option Nat}{s:St}{Q:Rc->St->Prop}{fn:iE}{x:D}(e:T.fn f=some fn)(c:fn.full=false)(h:Wf T f args [] λd H'=>d=x/\H' = [])
  (a:fR args=true) (b:closed x=true) (k:Q ⟨R,[]⟩ { s with env:=put s.env dst x }):iy T f args R dst s Q .mk:=by
 refine⟨fn,x,e,c,?_,by rw[if_pos a];exact b,k⟩
 have i:args.map (fy (λ_=>none) s.H 40)=args:=by
  conv=>rhs;rw[<-aS args]
  exact ao λd g=>pj (lD a d g)
 rw[i];exact h
theorem iy.r{f:FuncId}{args ny:List D}{R:List Fp}{dst:Option Nat}{s:St}{Q:Rc->St->Prop}{fn:iE}{x:D}(b:T.fn f=some fn)(a:fn.full=false)(h:Wf T f ny [] λd H'=>d=x/\H' = [])
  (hs:args.map (fy (λ_=>none) s.H 40)=ny) (e:flat x=true) (c:closed x=true) (k:Q ⟨R,[]⟩ { s with env:=put s.env dst x }):iy T f args R dst s Q .mk:=
 ⟨fn,x,b,a,by rw[hs];exact h,by split<;>assumption,k⟩
variable{s:St}{K:iq}{a b:IR}{l:List gy}{op:gZ}{k j:Nat}
@[simp ↓] theorem alD:XC T .skip s K=K (.norm s):=(rfl)
@[simp ↓] theorem alz:XC T (.ops l) s K=XO T l s λa=>K (.norm a):=(rfl)
@[simp ↓] theorem als{a:List (Nat×Nat)}:XC T (.lh a l) s K=XT T l s λrs b=>uC a rs=true/\K (.norm b):=(rfl)
@[simp ↓] theorem alu{b:List (Nat×Nat)}{es:List gy}:XC T (.l5 b l es) s K=XT T l s λrs a=>uC b rs=true/\XO T es a λa=>K (.norm a):=(rfl)
@[simp ↓] theorem alC:XC T (.seq a b) s K=XC T a s (LU T b K):=(rfl)
@[simp ↓] theorem alr{c:X}:XC T (.cond c a b) s K=XB (ev s.env.get c) (XC T a s K) (XC T b s K) .mk:=(rfl)
@[simp ↓] theorem alq{id:Nat}{live:List Nat}:XC T (.block id live a) s K=XC T a s (vV id s.H.length live K):=(rfl)
@[simp ↓] theorem aly{live:List Nat}:XC T (.loop live a) s K=fE T live a s K .mk:=(rfl)
@[simp ↓] theorem alA{rf:Nat}{live:List Nat}{x:X}:XC T (.mZ rf live x) s K=xC T rf live x s K .mk:=(rfl)
@[simp ↓] theorem alw{S:List Nat}:XC T (.fz S a) s K=(vC s.marks (o4 s.env S)=true/\XC T a (lk (o4 s.env S) s) K):=(rfl)
@[simp ↓] theorem alx{S:List Nat}{x y:List gy}:XC T (.tR S x y) s K=XO T x s λa=>vC a.marks (o4 a.env S)=true/\XO T y (lk (o4 a.env S) a) λa=>K (.norm a):=(rfl)
@[simp ↓] theorem alv{id:Nat}:XC T (.exit id) s K=K (.exit id s):=(rfl)
@[simp ↓] theorem alB:XC T .ret s K=K (.ret s):=(rfl)
@[simp ↓] theorem asy:LU T b K (.norm s)=XC T b s K:=(rfl)
@[simp ↓] theorem asx{id:Nat}:LU T b K (.exit id s)=K (.exit id s):=(rfl)
@[simp ↓] theorem asz:LU T b K (.ret s)=K (.ret s):=(rfl)
@[simp ↓] theorem Sl{id n:Nat}{live:List Nat}:vV id n live K (.norm s)=K (.norm (cut n live s)):=(rfl)
@[simp ↓] theorem an8{id n:Nat}{live:List Nat}:vV id n live K (.ret s)=K (.ret s):=(rfl)
@[simp ↓] theorem Sm{id n:Nat}{live:List Nat}:vV id n live K (.exit id s)=K (.norm (cut n live s)):=by simp[vV,kN]
@[simp ↓] theorem an7{id a n:Nat}{live:List Nat}(h:a≠id):vV id n live K (.exit a s)=K (.exit a s):=by simp[vV,kN,h]
@[simp ↓] theorem apV{rs:List tF}{own n:Nat}{K:D->U->Prop}:xU rs own n K (.ret s)=oA (kill s.marks s.H) (λH=>oA (tw { s with H:=H } rs) (λds=>K (leave own n H (tv ds)).1 (leave own n H (tv ds)).2) .mk) .mk:=(rfl)
@[simp ↓] theorem apU{rs:List tF}{own n:Nat}{K:D->U->Prop}:xU rs own n K (.norm s)=oA (kill s.marks s.H) (λH=>oA (tw { s with H:=H } rs) (λds=>K (leave own n H (tv ds)).1 (leave own n H (tv ds)).2) .mk) .mk:=(rfl)
@[simp ↓] theorem alK{K:St->Prop}:XO T [] s K=K s:=(rfl)
@[simp ↓] theorem alL{K:St->Prop}:XO T (o k op::l) s K=ij T op (some k) s λa=>XO T l a K:=by simp[XO,guardOf]
@[simp ↓] theorem alN{K:St->Prop}:XO T (u op::l) s K=ij T op none s λa=>XO T l a K:=by simp[XO,guardOf]
@[simp ↓] theorem alM{g:Bool}{K:St->Prop}:XO T (og j g k op::l) s K=XG (guardOf s.env.get (some (j,g))) (ij T op (some k) s λa=>XO T l a K) (XO T l { s with env:=(k,.val undef)::s.env } K) .mk:=(rfl)
@[simp ↓] theorem alO{g:Bool}{K:St->Prop}:XO T (ug j g op::l) s K=XG (guardOf s.env.get (some (j,g))) (ij T op none s λa=>XO T l a K) (XO T l s K) .mk:=(rfl)
@[simp ↓] theorem amD{Q:List Rc->St->Prop}:XT T [] s Q=Q [] s:=(rfl)
@[simp ↓] theorem amE{Q:List Rc->St->Prop}:XT T (o k op::l) s Q=jk T op (some k) s λrc b=>XT T l b λrs a=>Q (rc::rs) a:=by simp[XT,guardOf]
@[simp ↓] theorem amG{Q:List Rc->St->Prop}:XT T (u op::l) s Q=jk T op none s λrc b=>XT T l b λrs a=>Q (rc::rs) a:=by simp[XT,guardOf]
@[simp ↓] theorem amF{g:Bool}{Q:List Rc->St->Prop}:XT T (og j g k op::l) s Q=XG (guardOf s.env.get (some (j,g))) (jk T op (some k) s λrc b=>XT T l b λrs a=>Q (rc::rs) a) (XT T l { s with env:=(k,.val undef)::s.env } λrs a=>Q (⟨[],[]⟩::rs) a) .mk:=(rfl)
@[simp ↓] theorem amH{g:Bool}{Q:List Rc->St->Prop}:XT T (ug j g op::l) s Q=XG (guardOf s.env.get (some (j,g))) (jk T op none s λrc b=>XT T l b λrs a=>Q (rc::rs) a) (XT T l s λrs a=>Q (⟨[],[]⟩::rs) a) .mk:=(rfl)
@[simp ↓] theorem arp{dst:Option Nat}{K:St->Prop}{d:D}{δ:Dl}:kp s dst K (d,δ)=K { s with env:=put s.env dst d,H:=δ.app s.H (Al.last s.H) }:=(rfl)
@[simp ↓] theorem arq{dst:Option Nat}{R:List Fp}{Q:Rc->St->Prop}{d:D}{δ:Dl}:kt s dst R Q (d,δ)=Q ⟨R,jm s.H.length δ⟩ { s with env:=put s.env dst d,H:=δ.app s.H (Al.last s.H) }:=(rfl)
section
variable{dst:Option Nat}{K:St->Prop}{Q:Rc->St->Prop}
@[simp ↓] theorem amo{x:X}:ij T (.mv x) dst s K=oA (gf s.env.get s.H s.H.length (.mv x)) (kp s dst K) .mk:=(rfl)
@[simp ↓] theorem anb{x:X}:jk T (.mv x) dst s Q=oA (gf s.env.get s.H s.H.length (.mv x)) (kt s dst (gi s.env.get s.H (.mv x)) Q) .mk:=(rfl)
@[simp ↓] theorem amt{c a b:X}:ij T (.pick c a b) dst s K=oA (gf s.env.get s.H s.H.length (.pick c a b)) (kp s dst K) .mk:=(rfl)
@[simp ↓] theorem ane{c a b:X}:jk T (.pick c a b) dst s Q=oA (gf s.env.get s.H s.H.length (.pick c a b)) (kt s dst (gi s.env.get s.H (.pick c a b)) Q) .mk:=(rfl)
@[simp ↓] theorem alU{t:TypeId}{x:X}:ij T (.box t x) dst s K=oA (gf s.env.get s.H s.H.length (.box t x)) (kp s dst K) .mk:=(rfl)
@[simp ↓] theorem amM{t:TypeId}{x:X}:jk T (.box t x) dst s Q=oA (gf s.env.get s.H s.H.length (.box t x)) (kt s dst (gi s.env.get s.H (.box t x)) Q) .mk:=(rfl)
@[simp ↓] theorem alP{t:TypeId}{z:List D}:ij T (.alloc t z) dst s K=oA (gf s.env.get s.H s.H.length (.alloc t z)) (kp s dst K) .mk:=(rfl)
@[simp ↓] theorem amI{t:TypeId}{z:List D}:jk T (.alloc t z) dst s Q=oA (gf s.env.get s.H s.H.length (.alloc t z)) (kt s dst (gi s.env.get s.H (.alloc t z)) Q) .mk:=(rfl)
@[simp ↓] theorem alV{z:List D}{ps:List (Nat×Nat×X)}:ij T (.build z ps) dst s K=oA (gf s.env.get s.H s.H.length (.build z ps)) (kp s dst K) .mk:=(rfl)
@[simp ↓] theorem amN{z:List D}{ps:List (Nat×Nat×X)}:jk T (.build z ps) dst s Q=oA (gf s.env.get s.H s.H.length (.build z ps)) (kt s dst (gi s.env.get s.H (.build z ps)) Q) .mk:=(rfl)
@[simp ↓] theorem alW{t sz:Nat}{z:List D}{n:Nat}{ps:List (Nat×X)}:ij T (.buildSl t sz z n ps) dst s K=oA (gf s.env.get s.H s.H.length (.buildSl t sz z n ps)) (kp s dst K) .mk:=(rfl)
@[simp ↓] theorem amO{t sz:Nat}{z:List D}{n:Nat}{ps:List (Nat×X)}:jk T (.buildSl t sz z n ps) dst s Q=oA (gf s.env.get s.H s.H.length (.buildSl t sz z n ps)) (kt s dst (gi s.env.get s.H (.buildSl t sz z n ps)) Q) .mk:=(rfl)
@[simp ↓] theorem ame{x:X}:ij T (.ld1 x) dst s K=oA (gf s.env.get s.H s.H.length (.ld1 x)) (kp s dst K) .mk:=(rfl)
@[simp ↓] theorem am2{x:X}:jk T (.ld1 x) dst s Q=oA (gf s.env.get s.H s.H.length (.ld1 x)) (kt s dst (gi s.env.get s.H (.ld1 x)) Q) .mk:=(rfl)
@[simp ↓] theorem amf{n:Nat}{x:X}:ij T (.ldN n x) dst s K=oA (gf s.env.get s.H s.H.length (.ldN n x)) (kp s dst K) .mk:=(rfl)
@[simp ↓] theorem am3{n:Nat}{x:X}:jk T (.ldN n x) dst s Q=oA (gf s.env.get s.H s.H.length (.ldN n x)) (kt s dst (gi s.env.get s.H (.ldN n x)) Q) .mk:=(rfl)
@[simp ↓] theorem amA{a x:X}:ij T (.st1 a x) dst s K=oA (gf s.env.get s.H s.H.length (.st1 a x)) (kp s dst K) .mk:=(rfl)
@[simp ↓] theorem anj{a x:X}:jk T (.st1 a x) dst s Q=oA (gf s.env.get s.H s.H.length (.st1 a x)) (kt s dst (gi s.env.get s.H (.st1 a x)) Q) .mk:=(rfl)
@[simp ↓] theorem amB{n:Nat}{a x:X}:ij T (.stN n a x) dst s K=oA (gf s.env.get s.H s.H.length (.stN n a x)) (kp s dst K) .mk:=(rfl)
@[simp ↓] theorem ank{n:Nat}{a x:X}:jk T (.stN n a x) dst s Q=oA (gf s.env.get s.H s.H.length (.stN n a x)) (kt s dst (gi s.env.get s.H (.stN n a x)) Q) .mk:=(rfl)
@[simp ↓] theorem ams{x:X}:ij T (.nilck x) dst s K=oA (gf s.env.get s.H s.H.length (.nilck x)) (kp s dst K) .mk:=(rfl)
@[simp ↓] theorem anc{x:X}:jk T (.nilck x) dst s Q=oA (gf s.env.get s.H s.H.length (.nilck x)) (kt s dst (gi s.env.get s.H (.nilck x)) Q) .mk:=(rfl)
@[simp ↓] theorem alS{op:BinOp}{x y:X}:ij T (.arith op x y) dst s K=oA (gf s.env.get s.H s.H.length (.arith op x y)) (kp s dst K) .mk:=(rfl)
@[simp ↓] theorem amK{op:BinOp}{x y:X}:jk T (.arith op x y) dst s Q=oA (gf s.env.get s.H s.H.length (.arith op x y)) (kt s dst (gi s.env.get s.H (.arith op x y)) Q) .mk:=(rfl)
@[simp ↓] theorem al6{a:Bool}{ls:List lQ}{neg:Bool}{x y:X}:ij T (.eqS a ls neg x y) dst s K=oA (gf s.env.get s.H s.H.length (.eqS a ls neg x y)) (kp s dst K) .mk:=(rfl)
@[simp ↓] theorem amU{a:Bool}{ls:List lQ}{neg:Bool}{x y:X}:jk T (.eqS a ls neg x y) dst s Q=oA (gf s.env.get s.H s.H.length (.eqS a ls neg x y)) (kt s dst (gi s.env.get s.H (.eqS a ls neg x y)) Q) .mk:=(rfl)
@[simp ↓] theorem amC{op:UnOp}{x:X}:ij T (.un op x) dst s K=oA (gf s.env.get s.H s.H.length (.un op x)) (kp s dst K) .mk:=(rfl)
@[simp ↓] theorem anl{op:UnOp}{x:X}:jk T (.un op x) dst s Q=oA (gf s.env.get s.H s.H.length (.un op x)) (kt s dst (gi s.env.get s.H (.un op x)) Q) .mk:=(rfl)
@[simp ↓] theorem al2{k:IntKind}{x:X}:ij T (.conv k x) dst s K=oA (gf s.env.get s.H s.H.length (.conv k x)) (kp s dst K) .mk:=(rfl)
@[simp ↓] theorem amS{k:IntKind}{x:X}:jk T (.conv k x) dst s Q=oA (gf s.env.get s.H s.H.length (.conv k x)) (kt s dst (gi s.env.get s.H (.conv k x)) Q) .mk:=(rfl)
@[simp ↓] theorem alT{x:X}:ij T (.b2s x) dst s K=oA (gf s.env.get s.H s.H.length (.b2s x)) (kp s dst K) .mk:=(rfl)
@[simp ↓] theorem amL{x:X}:jk T (.b2s x) dst s Q=oA (gf s.env.get s.H s.H.length (.b2s x)) (kt s dst (gi s.env.get s.H (.b2s x)) Q) .mk:=(rfl)
@[simp ↓] theorem aml{fn:Fn}{first a:List X}:ij T (.mkfn fn first a) dst s K=oA (gf s.env.get s.H s.H.length (.mkfn fn first a)) (kp s dst K) .mk:=(rfl)
@[simp ↓] theorem am8{fn:Fn}{first a:List X}:jk T (.mkfn fn first a) dst s Q=oA (gf s.env.get s.H s.H.length (.mkfn fn first a)) (kt s dst (gi s.env.get s.H (.mkfn fn first a)) Q) .mk:=(rfl)
@[simp ↓] theorem amm{kk:KK}:ij T (.mkmap kk) dst s K=oA (gf s.env.get s.H s.H.length (.mkmap kk)) (kp s dst K) .mk:=(rfl)
@[simp ↓] theorem am9{kk:KK}:jk T (.mkmap kk) dst s Q=oA (gf s.env.get s.H s.H.length (.mkmap kk)) (kt s dst (gi s.env.get s.H (.mkmap kk)) Q) .mk:=(rfl)
@[simp ↓] theorem amn{t sz bytes:Nat}{z:List D}{l c:X}:ij T (.mksl t sz bytes z l c) dst s K=oA (gf s.env.get s.H s.H.length (.mksl t sz bytes z l c)) (kp s dst K) .mk:=(rfl)
@[simp ↓] theorem ana{t sz bytes:Nat}{z:List D}{l c:X}:jk T (.mksl t sz bytes z l c) dst s Q=oA (gf s.env.get s.H s.H.length (.mksl t sz bytes z l c)) (kt s dst (gi s.env.get s.H (.mksl t sz bytes z l c)) Q) .mk:=(rfl)
@[simp ↓] theorem amw{sz:Nat}{x:X}{lo hi:Option X}:ij T (.slc sz x lo hi) dst s K=oA (gf s.env.get s.H s.H.length (.slc sz x lo hi)) (kp s dst K) .mk:=(rfl)
@[simp ↓] theorem anf{sz:Nat}{x:X}{lo hi:Option X}:jk T (.slc sz x lo hi) dst s Q=oA (gf s.env.get s.H s.H.length (.slc sz x lo hi)) (kt s dst (gi s.env.get s.H (.slc sz x lo hi)) Q) .mk:=(rfl)
@[simp ↓] theorem amx{sz:Nat}{x:X}{lo:Option X}{hi mx:X}:ij T (.slc3 sz x lo hi mx) dst s K=oA (gf s.env.get s.H s.H.length (.slc3 sz x lo hi mx)) (kp s dst K) .mk:=(rfl)
@[simp ↓] theorem ang{sz:Nat}{x:X}{lo:Option X}{hi mx:X}:jk T (.slc3 sz x lo hi mx) dst s Q=oA (gf s.env.get s.H s.H.length (.slc3 sz x lo hi mx)) (kt s dst (gi s.env.get s.H (.slc3 sz x lo hi mx)) Q) .mk:=(rfl)
@[simp ↓] theorem amy{sz n:Nat}{x:X}{lo hi:Option X}:ij T (.slcArr sz n x lo hi) dst s K=oA (gf s.env.get s.H s.H.length (.slcArr sz n x lo hi)) (kp s dst K) .mk:=(rfl)
@[simp ↓] theorem anh{sz n:Nat}{x:X}{lo hi:Option X}:jk T (.slcArr sz n x lo hi) dst s Q=oA (gf s.env.get s.H s.H.length (.slcArr sz n x lo hi)) (kt s dst (gi s.env.get s.H (.slcArr sz n x lo hi)) Q) .mk:=(rfl)
@[simp ↓] theorem amz{x:X}{lo hi:Option X}:ij T (.slcS x lo hi) dst s K=oA (gf s.env.get s.H s.H.length (.slcS x lo hi)) (kp s dst K) .mk:=(rfl)
@[simp ↓] theorem ani{x:X}{lo hi:Option X}:jk T (.slcS x lo hi) dst s Q=oA (gf s.env.get s.H s.H.length (.slcS x lo hi)) (kt s dst (gi s.env.get s.H (.slcS x lo hi)) Q) .mk:=(rfl)
@[simp ↓] theorem al9{off:Nat}{x:X}:ij T (.fieldA off x) dst s K=oA (gf s.env.get s.H s.H.length (.fieldA off x)) (kp s dst K) .mk:=(rfl)
@[simp ↓] theorem amX{off:Nat}{x:X}:jk T (.fieldA off x) dst s Q=oA (gf s.env.get s.H s.H.length (.fieldA off x)) (kt s dst (gi s.env.get s.H (.fieldA off x)) Q) .mk:=(rfl)
@[simp ↓] theorem al8{off n:Nat}{a:Bool}{x:X}:ij T (.field off n a x) dst s K=oA (gf s.env.get s.H s.H.length (.field off n a x)) (kp s dst K) .mk:=(rfl)
@[simp ↓] theorem amW{off n:Nat}{a:Bool}{x:X}:jk T (.field off n a x) dst s Q=oA (gf s.env.get s.H s.H.length (.field off n a x)) (kt s dst (gi s.env.get s.H (.field off n a x)) Q) .mk:=(rfl)
@[simp ↓] theorem amb{sz:Nat}{x i:X}:ij T (.idxA sz x i) dst s K=oA (gf s.env.get s.H s.H.length (.idxA sz x i)) (kp s dst K) .mk:=(rfl)
@[simp ↓] theorem amZ{sz:Nat}{x i:X}:jk T (.idxA sz x i) dst s Q=oA (gf s.env.get s.H s.H.length (.idxA sz x i)) (kt s dst (gi s.env.get s.H (.idxA sz x i)) Q) .mk:=(rfl)
@[simp ↓] theorem amc{sz n:Nat}{x i:X}:ij T (.idxArr sz n x i) dst s K=oA (gf s.env.get s.H s.H.length (.idxArr sz n x i)) (kp s dst K) .mk:=(rfl)
@[simp ↓] theorem am0{sz n:Nat}{x i:X}:jk T (.idxArr sz n x i) dst s Q=oA (gf s.env.get s.H s.H.length (.idxArr sz n x i)) (kt s dst (gi s.env.get s.H (.idxArr sz n x i)) Q) .mk:=(rfl)
@[simp ↓] theorem ama{sz n:Nat}{a:Bool}{x i:X}:ij T (.idx sz n a x i) dst s K=oA (gf s.env.get s.H s.H.length (.idx sz n a x i)) (kp s dst K) .mk:=(rfl)
@[simp ↓] theorem amY{sz n:Nat}{a:Bool}{x i:X}:jk T (.idx sz n a x i) dst s Q=oA (gf s.env.get s.H s.H.length (.idx sz n a x i)) (kt s dst (gi s.env.get s.H (.idx sz n a x i)) Q) .mk:=(rfl)
@[simp ↓] theorem amd{x i:X}:ij T (.idxStr x i) dst s K=oA (gf s.env.get s.H s.H.length (.idxStr x i)) (kp s dst K) .mk:=(rfl)
@[simp ↓] theorem am1{x i:X}:jk T (.idxStr x i) dst s Q=oA (gf s.env.get s.H s.H.length (.idxStr x i)) (kt s dst (gi s.env.get s.H (.idxStr x i)) Q) .mk:=(rfl)
@[simp ↓] theorem amh{kk:KK}{z:D}{ok:Bool}{m k:X}:ij T (.lookup kk z ok m k) dst s K=oA (gf s.env.get s.H s.H.length (.lookup kk z ok m k)) (kp s dst K) .mk:=(rfl)
@[simp ↓] theorem am5{kk:KK}{z:D}{ok:Bool}{m k:X}:jk T (.lookup kk z ok m k) dst s Q=oA (gf s.env.get s.H s.H.length (.lookup kk z ok m k)) (kt s dst (gi s.env.get s.H (.lookup kk z ok m k)) Q) .mk:=(rfl)
@[simp ↓] theorem amj{kk:KK}{m k v:X}:ij T (.mapUpd kk m k v) dst s K=oA (gf s.env.get s.H s.H.length (.mapUpd kk m k v)) (kp s dst K) .mk:=(rfl)
@[simp ↓] theorem am6{kk:KK}{m k v:X}:jk T (.mapUpd kk m k v) dst s Q=oA (gf s.env.get s.H s.H.length (.mapUpd kk m k v)) (kt s dst (gi s.env.get s.H (.mapUpd kk m k v)) Q) .mk:=(rfl)
@[simp ↓] theorem al7{x:X}{i:Nat}:ij T (.ext x i) dst s K=oA (gf s.env.get s.H s.H.length (.ext x i)) (kp s dst K) .mk:=(rfl)
@[simp ↓] theorem amV{x:X}{i:Nat}:jk T (.ext x i) dst s Q=oA (gf s.env.get s.H s.H.length (.ext x i)) (kt s dst (gi s.env.get s.H (.ext x i)) Q) .mk:=(rfl)
@[simp ↓] theorem alX{f:FuncId}{args:List X}:ij T (.call f args) dst s K=fL T f (args.map (ev s.env.get)) dst s K .mk:=(rfl)
@[simp ↓] theorem amP{f:FuncId}{args:List X}:jk T (.call f args) dst s Q=iy T f (args.map (ev s.env.get)) (gi s.env.get s.H (.call f args)) dst s Q .mk:=(rfl)
@[simp ↓] theorem alY{f:FuncId}{args:List X}:ij T (.callN f args) dst s K=fL T f (args.map (ev s.env.get)) dst s K .mk:=(rfl)
@[simp ↓] theorem amQ{f:FuncId}{args:List X}:jk T (.callN f args) dst s Q=sW T f (args.map (ev s.env.get)) (gi s.env.get s.H (.callN f args)) dst s Q .mk:=(rfl)
@[simp ↓] theorem alZ{f:X}{args:List X}:ij T (.callv f args) dst s K=uV T (ev s.env.get f) (args.map (ev s.env.get)) dst s K .mk:=(rfl)
@[simp] theorem alE{k:FuncId}{first cap args:List D}:uV T (.fn (.func k) first cap) args dst s K .mk=fL T k (first++args++cap) dst s K .mk:=by show oA (some (k,first++args++cap)) (λp=>fL T p.1 p.2 dst s K .mk) .mk=_;simp only[yE]
@[simp] theorem alF{v:Nat}{args:List D}:uV T (.iw v) args dst s K .mk=rl T v args dst s K .mk:=(rfl)
@[simp ↓] theorem amR{f:X}{args:List X}:jk T (.callv f args) dst s Q=oA (jS s.env.get (.callv f args)) (λp=>iy T p.1 p.2 (gi s.env.get s.H (.callv f args)) dst s Q .mk) .mk:=(rfl)
@[simp ↓] theorem alQ{t sz bytes:Nat}{x y:X}:ij T (.app t sz bytes x y) dst s K=oA (gf s.env.get s.H s.H.length (.app t sz bytes x y)) (kp s dst K) .mk:=(rfl)
@[simp ↓] theorem amJ{t sz bytes:Nat}{x y:X}:jk T (.app t sz bytes x y) dst s Q=oA (gf s.env.get s.H s.H.length (.app t sz bytes x y)) (kt s dst (gi s.env.get s.H (.app t sz bytes x y)) Q) .mk:=(rfl)
@[simp ↓] theorem al3{sz:Nat}{x y:X}:ij T (.copy sz x y) dst s K=oA (gf s.env.get s.H s.H.length (.copy sz x y)) (kp s dst K) .mk:=(rfl)
@[simp ↓] theorem amT{sz:Nat}{x y:X}:jk T (.copy sz x y) dst s Q=oA (gf s.env.get s.H s.H.length (.copy sz x y)) (kt s dst (gi s.env.get s.H (.copy sz x y)) Q) .mk:=(rfl)
@[simp ↓] theorem amg{k:y5}{x:X}:ij T (.len k x) dst s K=oA (gf s.env.get s.H s.H.length (.len k x)) (kp s dst K) .mk:=(rfl)
@[simp ↓] theorem am4{k:y5}{x:X}:jk T (.len k x) dst s Q=oA (gf s.env.get s.H s.H.length (.len k x)) (kt s dst (gi s.env.get s.H (.len k x)) Q) .mk:=(rfl)
@[simp ↓] theorem amk{a:Bool}{xs:List X}:ij T (.minmax a xs) dst s K=oA (gf s.env.get s.H s.H.length (.minmax a xs)) (kp s dst K) .mk:=(rfl)
@[simp ↓] theorem am7{a:Bool}{xs:List X}:jk T (.minmax a xs) dst s Q=oA (gf s.env.get s.H s.H.length (.minmax a xs)) (kt s dst (gi s.env.get s.H (.minmax a xs)) Q) .mk:=(rfl)
@[simp ↓] theorem amr{neg:Bool}{x:X}:ij T (.nilS neg x) dst s K=oA (lL s.env.get s.H s.H.length (.nilS neg x)) (kp s dst K) .mk:=(rfl)
@[simp ↓] theorem al0{x:X}:ij T (.capE x) dst s K=oA (lL s.env.get s.H s.H.length (.capE x)) (kp s dst K) .mk:=(rfl)
@[simp ↓] theorem alR{t sz bytes:Nat}{z:List D}{x n:X}:ij T (.appZ t sz bytes z x n) dst s K=oA (lL s.env.get s.H s.H.length (.appZ t sz bytes z x n)) (kp s dst K) .mk:=(rfl)
@[simp ↓] theorem al1{sz:Nat}{z:List D}{x:X}:ij T (.clr sz z x) dst s K=oA (lL s.env.get s.H s.H.length (.clr sz z x)) (kp s dst K) .mk:=(rfl)
@[simp ↓] theorem amv{x:X}:ij T (.rangeS x) dst s K=oA (lL s.env.get s.H s.H.length (.rangeS x)) (kp s dst K) .mk:=(rfl)
@[simp ↓] theorem amq{x:X}:ij T (.nextS x) dst s K=oA (lL s.env.get s.H s.H.length (.nextS x)) (kp s dst K) .mk:=(rfl)
@[simp ↓] theorem amu{x:X}:ij T (.rangeM x) dst s K=oA (lL s.env.get s.H s.H.length (.rangeM x)) (kp s dst K) .mk:=(rfl)
@[simp ↓] theorem amp{x:X}:ij T (.nextM x) dst s K=tH (ev s.env.get x) dst s K .mk:=(rfl)
@[simp ↓] theorem ami{kk:KK}{z:D}{m k:X}:ij T (.mapEnt kk z m k) dst s K=oA (lL s.env.get s.H s.H.length (.mapEnt kk z m k)) (kp s dst K) .mk:=(rfl)
@[simp ↓] theorem al4{m k x:X}:ij T (.entSt m k x) dst s K=oA (lL s.env.get s.H s.H.length (.entSt m k x)) (kp s dst K) .mk:=(rfl)
@[simp ↓] theorem al5{x:X}:ij T (.entry x) dst s K=oA (lL s.env.get s.H s.H.length (.entry x)) (kp s dst K) .mk:=(rfl)
end
end
def wX(n:Nat)(live keys:List Nat)(J:Env->U->List Nat->Bool->Prop)(K:iq):iq:=λo=>match o with
 | .norm s=>J (forget keys (cut n live s).env) (cut n live s).H (cut n live s).marks (cut n live s).gW
 | o=>K o
@[simp ↓] theorem Wa{n:Nat}{live keys:List Nat}{J:Env->U->List Nat->Bool->Prop}{K:iq}{s:St}:wX n live keys J K (.norm s)=J (forget keys (cut n live s).env) (cut n live s).H (cut n live s).marks (cut n live s).gW:=(rfl)
@[simp ↓] theorem ar6{n:Nat}{live keys:List Nat}{J:Env->U->List Nat->Bool->Prop}{K:iq}{id:Nat}{s:St}:wX n live keys J K (.exit id s)=K (.exit id s):=(rfl)
@[simp ↓] theorem ar8{n:Nat}{live keys:List Nat}{J:Env->U->List Nat->Bool->Prop}{K:iq}{s:St}:wX n live keys J K (.ret s)=K (.ret s):=(rfl)
theorem fE.i{T:gO}{live:List Nat}{a:IR}{s:St}{K:iq}{α:Type}(keys:List Nat)(j:(keys.all λk=>live.contains k)=true)(E:α->Env)(f:α->U)(P:α->Prop)(c:α->Nat)(d:α)
  (h0:P d) (p:forget keys s.env=E d) (n:s.H=f d)
  (h:∀x,P x->XC T a { env:=E x,H:=f x,marks:=s.marks,gW:=s.gW } (wX s.H.length live keys (λe H m r=>∃b,e=E b/\H=f b/\m=s.marks/\r=s.gW/\c b<c x/\P b) K)):fE T live a s K .mk:=by
 refine Wc.loop (λm g=>∃x,P x/\m=c x/\({ g with env:=forget keys g.env }:St) = { env:=E x,H:=f x,marks:=s.marks,gW:=s.gW }) (c d) ⟨d,h0,rfl,?_⟩ ?_
 .dsimp only;rw[abZ j,p];rw[<-n]
 .rintro m g ⟨x,hP,rfl,l⟩;refine Ev.Ky keys ?_;rw[l];refine(XC.wc (h x hP)).mono λo i=>?_
  cases o with
  | norm v=>
   obtain⟨b,t,z,y,w,u,h1⟩:=i;refine⟨c b,u,b,h1,rfl,?_⟩;rw[t];generalize cut s.H.length live v=q at *;cases q;simp_all
  | exit=>exact i
  | ret=>exact i
theorem fE.j{T:gO}{live:List Nat}{a:IR}{s:St}{K:iq}{α:Type}(b:α)(E:α->Env)(d:α->U)(P:α->Prop)(f:α->Nat)
  (h0:P b) (j:forget ((E b).map (·.1)) s.env=E b) (i:s.H=d b) (g:(((E b).map (·.1)).all λk=>live.contains k)=true)
  (h:∀x,P x->XC T a { env:=E x,H:=d x,marks:=s.marks,gW:=s.gW } (wX s.H.length live ((E b).map (·.1)) (λe H m r=>∃c,e=E c/\H=d c/\m=s.marks/\r=s.gW/\f c<f x/\P c) K)):fE T live a s K .mk:=
 fE.i ((E b).map (·.1)) g E d P f b h0 j i h
@[simp] theorem rv{n:Nat}{live:List Nat}{env:Env}{H:U}{m:List Nat}{r:Bool}(h:H.length<=n):cut n live { env:=env,H:=H,marks:=m,gW:=r } = { env:=forget live env,H:=H,marks:=m,gW:=r }:=S1 h
def Is(x:D):D->U->Prop:=λd Hn=>d=x/\Hn = []
@[simp] theorem alc(x d:D)(H:U):Is x d H=(d=x/\H = []):=rfl
@[simp] theorem atO(x:Bool)(a b:D):AI (.b x) a b=some (cond x a b):=by cases x<;>rfl
@[simp] theorem asY(c:Bool)(a b d e:D)(P:D->Prop):oA (AI (bif c then a else b) d e) P .mk=X2 c (oA (AI a d e) P .mk) (oA (AI b d e) P .mk) .mk:=by cases c<;>simp
@[simp] theorem V1{n:Nat}{H:U}{d:D}(h:H.length<=n)(own:Nat):leave own n H d=(d,H):=by unfold leave;rw[if_pos (.inl h)]
@[simp] theorem arF{n:Nat}{H:U}{d:D}:leave 4 n H d=(d,H):=by unfold leave;rw[if_pos (.inr rfl)]
section
variable{P:D->Prop}{a b:Int}
@[simp] theorem asH:oA (jl .add .i64 a b) P .mk=(mX (a+b)/\P (.i (a+b))):=by simp only[jl,if_true];rw[AD,yE]
@[simp] theorem as3:oA (jl .sub .i64 a b) P .mk=(mX (a-b)/\P (.i (a-b))):=by simp only[jl,if_true];rw[AD,yE]
@[simp] theorem asX:oA (jl .mul .i64 a b) P .mk=(mX (a*b)/\P (.i (a*b))):=by simp only[jl,if_true];rw[AD,yE]
end
def tt(a b:Int):Int:=IntKind.i64.wrap (a.tdiv b)
def fJ(a b:Int):Int:=a.tmod b
theorem mL{n:Int}(h:mX n):IntKind.i64.wrap n=n:=by unfold mX at h;simp only[IntKind.wrap,IntKind.bits,IntKind.signed];simp;omega
theorem tu{a b:Int}(h0:0<=a)(h1:a<=9223372036854775807)(c:0<b):tt a b=a / b:=by unfold tt;rw[Int.tdiv_eq_ediv_of_nonneg h0,mL];have e:0<=a / b:=Int.ediv_nonneg h0 (by omega);have d:a / b<=a:=Int.ediv_le_self b h0;exact ie
theorem iV{a b:Int}(h0:0<=a):fJ a b=a % b:=Int.tmod_eq_emod_of_nonneg h0
section
variable{P:D->Prop}{a b:Int}{t:Tag P}
@[simp] theorem asZ:oA (jl .quo .i64 a b) P t=(b≠0/\P (.i (tt a b))):=by
 cases t;simp only[jl]
 by_cases h:b=0<;>simp[h,tt]
@[simp] theorem as1:oA (jl .rem .i64 a b) P t=(b≠0/\P (.i (fJ a b))):=by
 cases t;simp only[jl]
 by_cases h:b=0<;>simp[h,fJ]
end
@[simp] theorem aqM(n:Int):mX n=(-9223372036854775808<=n/\n<=9223372036854775807):=rfl
def gt{α:Type}[Inhabited α](l:List α)(n:Int):α:=l.getD n.toNat default
theorem fM{α:Type}[Inhabited α]{l:List α}{n:Int}(h0:0<=n)(h:n<l.length):gt l n∈l:=by unfold gt;rw[List.getD_eq_getElem?_getD,List.getElem?_eq_getElem (by omega),aO];exact bI _
theorem jh{α:Type}[Inhabited α]{l:List α}{n:Int}(h0:0<=n)(h:n<l.length):gt l n=l[n.toNat]:=by unfold gt;rw[List.getD_eq_getElem?_getD,List.getElem?_eq_getElem (by omega),aO]
theorem KL{α:Type}[Inhabited α]{l:List α}{n:Nat}(h:n<l.length):gt l n=l[n]:=jh (by omega) (by omega)
theorem iD{α:Type}[Inhabited α]{l:List α}{n:Int}(h0:0<=n)(h:n<l.length):l.take (n+1).toNat=l.take n.toNat ++ [gt l n]:=by rw[jh h0 h,<-List.take_succ_eq_append_getElem (by omega)];congr 1;omega
theorem mP{α:Type}[Inhabited α]{l:List α}{n:Int}(h0:0<=n)(h:n<l.length):l.drop n.toNat=gt l n::l.drop (n.toNat+1):=by rw[jh h0 h];exact bW (by omega)
theorem w6{α:Type}[Inhabited α]{l:List α}{x:α}:x∈l↔∃n:Int,0<=n/\n<l.length/\gt l n=x:=by
 constructor
 .intro h;obtain⟨i,hi,e⟩:=List.getElem_of_mem h;exact⟨i,by omega,by omega,by rw[KL hi,e]⟩
 .rintro⟨n,h0,h1,rfl⟩;exact fM h0 h1
theorem kq{α:Type}{l:List α}{n:Int}(h:(l.length:Int)<=n):l.take n.toNat=l:=af (by omega)
section
variable{α:Type}[Inhabited α]{sz:Nat}{f:α->List D}{P:D->Prop}{k:IntKind}
theorem w8{l:List α}{n:Int}:oA (lV sz (.sl sz (l.map f)) (.val (.int k n))) P .mk=((0<=n/\n<l.length)/\P (.fH (f (gt l n)))):=by
 simp only[lV,List.length_map,true_and,AD,yE];refine propext ⟨λ⟨h,a⟩=>⟨h,?_⟩,λ⟨h,a⟩=>⟨h,?_⟩⟩
 .rw[List.getD_eq_getElem?_getD,aq,List.getElem?_eq_getElem (by omega),aD,aO]at a;unfold gt;rw[List.getD_eq_getElem?_getD,List.getElem?_eq_getElem (by omega),aO];exact a
 .rw[List.getD_eq_getElem?_getD,aq,List.getElem?_eq_getElem (by omega),aD,aO];unfold gt at a;rw[List.getD_eq_getElem?_getD,List.getElem?_eq_getElem (by omega),aO]at a;exact a
@[simp] theorem asN{l:List α}{n:Int}:oA (lV sz (.sl sz (l.map f)) (.val (.int k n))) P .mk=((0<=n/\n<l.length)/\P (.fH (f (gt l n)))):=w8
@[simp] theorem asM{l:List Int}{n:Int}:oA (lV 1 (dI l) (.val (.int k n))) P .mk=((0<=n/\n<l.length)/\P (.fH [.i (gt l n)])):=by unfold dI;rw[w8,BF]
@[simp] theorem asS{l:List Pos}{n:Int}:oA (lV 5 (gC l) (.val (.int k n))) P .mk=((0<=n/\n<l.length)/\P (.fH (gt l n).cells)):=w8
@[simp] theorem asR{l:List fq}{n:Int}:oA (lV 2 (gQ l) (.val (.int k n))) P .mk=((0<=n/\n<l.length)/\P (.fH [.i (gt l n).1,.i (gt l n).2])):=by unfold gQ;rw[w8,BH]
@[simp] theorem asP{l:List α}{n:Int}:oA (lV sz (dN sz f l) (.val (.int k n))) P .mk=((0<=n/\n<l.length)/\P (.fH (f (gt l n)))):=by
 cases l with
 | nil=>
  simp only[dN,lV,WC,cM];refine propext ⟨λh=>h.elim,λ⟨h,_⟩=>?_⟩;have:=h.1;have:=h.2;simp at this;omega
 | cons a l=>exact w8
end
def F'(H:U)(k:Nat)(ρ:Nat->Option Nat)(v g sz off n:Nat):Option Nat->D
 | some v'=>.fm v' g sz off n
 | none=>match rowAt H v g with
  | some (_,cs)=>if (off+n)*sz<=cs.length then .sl sz (chunks sz n ((cs.drop (off*sz)).map (fy ρ H k)))else .any
  | none=>.any
@[simp] theorem QP(ρ:Nat->Option Nat)(H:U)(k v g sz off n:Nat):fy ρ H (k+1) (.fm v g sz off n)=F' H k ρ v g sz off n (ρ v):=by rw[fy,if_neg (by simp[closed])];unfold F';rfl
@[simp] theorem akd(H:U)(k:Nat)(ρ:Nat->Option Nat)(v g sz off n v':Nat):F' H k ρ v g sz off n (some v') = .fm v' g sz off n:=rfl
def Ga(H:U)(k:Nat)(ρ:Nat->Option Nat)(v g off:Nat):Option Nat->D
 | some v'=>.ptr v' g off
 | none=>match rowAt H v g with
  | some (_,cs)=>.fH ((cs.drop off).map (fy ρ H k))
  | none=>.any
@[simp] theorem aki(ρ:Nat->Option Nat)(H:U)(k v g off:Nat):fy ρ H (k+1) (.ptr v g off)=Ga H k ρ v g off (ρ v):=by rw[fy,if_neg (by simp[closed])];unfold Ga;rfl
@[simp] theorem ake(H:U)(k:Nat)(ρ:Nat->Option Nat)(v g off v':Nat):Ga H k ρ v g off (some v') = .ptr v' g off:=rfl
def Mm:Option Nat->D
 | some v'=>.fV v'
 | none=>.any
@[simp] theorem akh(ρ:Nat->Option Nat)(H:U)(k v:Nat):fy ρ H (k+1) (.fV v)=Mm (ρ v):=by rw[fy,if_neg (by simp[closed])];unfold Mm;rfl
@[simp] theorem akc(v:Nat):Mm (some v) = .fV v:=rfl
@[simp] theorem auz:Mm none = .any:=rfl
@[simp] theorem auJ{ρ:Nat->Option Nat}{H:U}{k:Nat}{d:D}(h:closed d=true):fy ρ H k d=d:=pj h
@[simp] theorem SI(cs:List D):closed (.agg cs)=fR cs:=by simp only[closed]
@[simp] theorem apt(cs:List D):closed (.tup cs)=fR cs:=by simp only[closed]
@[simp] theorem apo(cs:List D):closed (.fH cs)=fR cs:=by simp only[closed]
@[simp] theorem apu(v:Value):closed (.val v)=true:=by simp only[closed]
@[simp] theorem apn:closed .fw=true:=by simp only[closed]
@[simp] theorem SK(f:Fn)(a b:List D):closed (.fn f a b)=(fR a&&fR b):=by simp only[closed]
@[simp] theorem apr(v g sz off n:Nat):closed (.fm v g sz off n)=false:=by simp only[closed]
@[simp] theorem aps(v g o:Nat):closed (.ptr v g o)=false:=by simp only[closed]
@[simp] theorem apv(v:Nat):closed (.iw v)=false:=by simp only[closed]
theorem Au{ρ:Nat->Option Nat}{H:U}{k:Nat}{cs:List D}(h:fR cs=true):cs.map (fy ρ H k)=cs:=by
 conv=>rhs;rw[<-aS cs]
 exact ao λd a=>pj (lD h d a)
@[simp] theorem akg(ρ:Nat->Option Nat)(H:U)(k:Nat)(cs:List D):fy ρ H (k+1) (.agg cs) = .agg (cs.map (fy ρ H k)):=by
 by_cases h:closed (.agg cs)=true
 .rw[pj h,Au (by simpa using h)]
 .rw[fy,if_neg h]
@[simp] theorem akj(ρ:Nat->Option Nat)(H:U)(k:Nat)(cs:List D):fy ρ H (k+1) (.tup cs) = .tup (cs.map (fy ρ H k)):=by
 by_cases h:closed (.tup cs)=true
 .rw[pj h,Au (by simpa using h)]
 .rw[fy,if_neg h]
@[simp] theorem auK(ρ:Nat->Option Nat)(H:U)(k:Nat)(c:Bool)(a b:D):fy ρ H k (bif c then a else b)=bif c then fy ρ H k a else fy ρ H k b:=by cases c<;>rfl
theorem QN{ρ:Nat->Option Nat}{H:U}{k:Nat}{cs:List D}(h:fR cs=true):cs.map (fy ρ H (k+1))=cs:=by
 conv=>rhs;rw[<-aS cs]
 exact ao λd a=>pj (lD h d a)
theorem Nc{α:Type}{sz:Nat}{f:α->List D}(b:∀a,(f a).length=sz):∀l:List α,chunks sz l.length (l.map f).flatten=l.map f
 | []=>rfl
 | a::l=>by simp only[aG,chunks,List.map_cons,aP];rw[aT (by rw[b];exact Nat.le_refl _),af (by rw[b];exact Nat.le_refl _),dY (by rw[b];exact Nat.le_refl _),bn (by rw[b];exact Nat.le_refl _),br,Nc b l]
theorem adW{α:Type}{sz:Nat}{f:α->List D}(c:∀a,(f a).length=sz)(l:List α):(l.map f).flatten.length=l.length*sz:=by
 induction l with
 | nil=>simp
 | cons a l b=>simp only[List.map_cons,aP,ar,c,b,aG,bZ];omega
theorem J1{a b:List D}:fR (a++b)=(fR a&&fR b):=by
 induction a with
 | nil=>rfl
 | cons d a c=>simp only[bP,fR,c,Bool.and_assoc]
theorem ZG{α:Type}{f:α->List D}(c:∀a,fR (f a)=true)(l:List α):fR (l.map f).flatten=true:=by
 induction l with
 | nil=>rfl
 | cons a l b=>simp only[List.map_cons,aP,J1,c,b];rfl
class Fl {α:Type} (f:α->List D) (sz:outParam Nat):Prop where
 len:∀a,(f a).length=sz
 cl:∀a,fR (f a)=true
instance:Fl f1 1:=⟨λ_=>by simp,λ_=>by simp[fR]⟩
instance:Fl fB 1:=⟨λ_=>by simp,λ_=>by simp[fR]⟩
instance:Fl fS 2:=⟨λ_=>by simp,λ_=>by simp[fR]⟩
instance:Fl fP 1:=⟨λ_=>by simp,λ_=>by simp[fR]⟩
instance:Fl fI 1:=⟨λ_=>by simp,λ_=>by simp[fR]⟩
instance:Fl Pos.cells 5:=⟨λ_=>rfl,λ_=>by simp⟩
instance:Fl Kind.cells 3:=⟨λ_=>rfl,λ_=>by simp⟩
instance:Fl Clause.cells 4:=⟨λ_=>rfl,λ_=>by simp⟩
section
variable{α:Type}{f:α->List D}{sz:Nat}
@[simp] theorem ZB:cl f [] = []:=by rw[na];rfl
@[simp] theorem Bw(a b:List α):cl f a++cl f b=cl f (a++b):=by simp[na]
theorem oZ(l:List α)(a:α):cl f l++f a=cl f (l ++ [a]):=by simp[na]
theorem mm(l:List α)(a:α):cl f (a::l)=f a++cl f l:=by simp[na]
variable [F:Fl f sz]
include F
@[simp] theorem s5(l:List α):(cl f l).length=l.length*sz:=by rw[na];exact adW F.len l
theorem vZ:∀(l:List α) (n:Nat),(cl f l).take (n*sz)=cl f (l.take n)
 | [],n=>by simp
 | a::l,0=>by simp
 | a::l,n+1=>by rw[mm,List.take_succ_cons,mm,<-vZ l n,bZ,List.take_append,F.len,af (by rw[F.len];omega)];congr 2;omega
theorem tM:∀(l:List α) (n:Nat),(cl f l).drop (n*sz)=cl f (l.drop n)
 | [],n=>by simp
 | a::l,0=>by simp
 | a::l,n+1=>by rw[mm,List.drop_succ_cons,<-tM l n,bZ,List.drop_append,F.len,bn (by rw[F.len];omega),br];congr 1;omega
@[simp] theorem ao4(l:List α):(cl f l).take (l.length*sz)=cl f l:=by rw[vZ,dJ]
@[simp] theorem tL(l:List α):fR (cl f l)=true:=by rw[na];exact ZG F.cl l
@[simp] theorem ao2{ρ:Nat->Option Nat}{H:U}(l:List α):(cl f l).map (fy ρ H 40)=cl f l:=QN (tL l)
@[simp] theorem ze{k:Nat}(l:List α):closed (.sl k (l.map f))=true:=by simp only[closed];exact Bz F.cl l
theorem SG(l:List α)(n j:Nat)(c:j<sz):(cl f l)[n*sz+j]? = (l[n]?).bind λa=>(f a)[j]? := by
 have h:(cl f l)[n*sz+j]? = ((cl f l).drop (n*sz))[j]? := by rw[aH]
 rw[h,tM]
 by_cases b:n<l.length
 .rw[bW b,mm,ah (by rw[F.len];exact c),List.getElem?_eq_getElem b];rfl
 .have d:l[n]? = none:=bY (Nat.le_of_not_lt b);rw[bn (Nat.le_of_not_lt b),d];simp
theorem ZC(l:List α)(n:Nat)(a:α)(h:n<l.length):(cl f l).take (n*sz)++f a++(cl f l).drop (n*sz+sz)=cl f (l.take n++a::l.drop (n+1)):=by rw[vZ,<-bZ,tM,<-Bw,mm,aM]
end
@[simp] theorem aoO(l:List Int)(n:Nat):(cl f1 l).take n=cl f1 (l.take n):=by simpa using vZ (f:=f1) l n
@[simp] theorem aoM(l:List Int)(n:Nat):(cl f1 l).drop n=cl f1 (l.drop n):=by simpa using tM (f:=f1) l n
@[simp] theorem aoN(l:List Int)(n:Int):cl f1 l ++ [.i n]=cl f1 (l ++ [n]):=by rw[<-oZ,BF]
@[simp] theorem aoR(l:List (List Int))(x:List Int):cl fI l ++ [dI x]=cl fI (l ++ [x]):=by rw[<-oZ,abM]
@[simp] theorem aoV(l:List (List fq))(x:List fq):cl fP l ++ [gQ x]=cl fP (l ++ [x]):=by rw[<-oZ,abN]
@[simp] theorem aoX(l:List fq)(a b:Int):cl fS l ++ [.i a,.i b]=cl fS (l ++ [(a,b)]):=by rw[<-oZ,BH]
@[simp] theorem aoW(l:List Pos)(a b c:List Int)(r q:Int):cl Pos.cells l ++ [dI a,dI b,dI c,.i r,.i q]=cl Pos.cells (l ++ [⟨a,b,c,r,q⟩]):=by rw[<-oZ];rfl
@[simp] theorem atP(p:Pos):Pos.mk p.cs p.h0 p.h1 p.fY p.side=p:=rfl
@[simp] theorem asI{l:List Int}{n:Int}{P:D->Prop}:oA (cl f1 l)[n.toNat]? P .mk=(n.toNat<l.length/\P (.i (gt l n))):=by
 have h:=SG (f:=f1) l n.toNat 0 (by omega);simp only[et,cd]at h;rw[h]
 by_cases a:n.toNat<l.length
 .rw[List.getElem?_eq_getElem a];have e:gt l n=l[n.toNat]:=by unfold gt;rw[List.getD_eq_getElem?_getD,List.getElem?_eq_getElem a];rfl
  simp[a,e]
 .rw[bY (by omega)];simp[a]
@[simp] theorem aex{α:Type}[Inhabited α]{f:α->List D}{sz:Nat}[F:Fl f sz]{l:List α}{t:TypeId}{n:Int}{P:D->Prop}(b:0<sz):oA (tm sz (n.toNat*sz) (some (t,cl f l))) P .mk=(n.toNat<l.length/\P (.agg (f (gt l n)))):=by
 simp only[tm,s5,<-bZ];rw[AD,yE];have h:n.toNat.succ*sz<=l.length*sz↔n.toNat<l.length:=eQ b;rw[h];refine propext ⟨λ⟨a,p⟩=>⟨a,?_⟩,λ⟨a,p⟩=>⟨a,?_⟩⟩
 .have e:gt l n=l[n.toNat]:=by unfold gt;rw[List.getD_eq_getElem?_getD,List.getElem?_eq_getElem a];rfl
  rw[tM,bW a,mm,aT (by rw[F.len];exact Nat.le_refl _),af (by rw[F.len];exact Nat.le_refl _),<-e]at p;exact p
 .have e:gt l n=l[n.toNat]:=by unfold gt;rw[List.getD_eq_getElem?_getD,List.getElem?_eq_getElem a];rfl
  rw[tM,bW a,mm,aT (by rw[F.len];exact Nat.le_refl _),af (by rw[F.len];exact Nat.le_refl _),<-e];exact p
def l6(ρ:Nat->Option Nat)(H:U)(k sz off n:Nat):Option (TypeId×List D)->D
 | some (_,cs)=>if (off+n)*sz<=cs.length then .sl sz (chunks sz n ((cs.drop (off*sz)).map (fy ρ H k)))else .any
 | none=>.any
@[simp] theorem XP(H:U)(k:Nat)(ρ:Nat->Option Nat)(v g sz off n:Nat):F' H k ρ v g sz off n none=l6 ρ H k sz off n (rowAt H v g):=by unfold F' l6;rfl
@[simp] theorem tS{α:Type}{f:α->List D}{sz:Nat}[F:Fl f sz]{ρ:Nat->Option Nat}{H:U}{k n:Nat}{t:TypeId}{l:List α}(h:n=l.length):l6 ρ H (k+1) sz 0 n (some (t,cl f l)) = .sl sz (l.map f):=by subst h;unfold l6;dsimp only;rw[s5,if_pos (by simp),cI,e7,QN (tL l),na,Nc F.len]
@[simp] theorem ap9{ρ:Nat->Option Nat}{H:U}{k sz:Nat}{p:TypeId×List D}:l6 ρ H k sz 0 0 (some p) = .sl sz []:=by unfold l6;simp[chunks]
@[simp] theorem au3:D.sl 1 []=dI []:=by unfold dI;rfl
@[simp] theorem au4:D.sl 2 []=gQ []:=by unfold gQ;rfl
@[simp] theorem aqb{ρ:Nat->Option Nat}{H:U}{k:Nat}{t:TypeId}{a b c:List Int}{r q:Int}:l6 ρ H (k+1) 5 0 1 (some (t,[dI a,dI b,dI c,.i r,.i q]))=gC [⟨a,b,c,r,q⟩]:=by have h:=tS (f:=Pos.cells) (ρ:=ρ) (H:=H) (k:=k) (t:=t) (l:=[⟨a,b,c,r,q⟩]) (n:=1) rfl;rw[na]at h;unfold gC;exact h
@[simp] theorem au8(l:List Int):D.sl 1 (l.map f1)=dI l:=by unfold dI;rfl
@[simp] theorem avb(l:List Pos):D.sl 5 (l.map Pos.cells)=gC l:=by unfold gC;rfl
@[simp] theorem ava(l:List fq):D.sl 2 (l.map fS)=gQ l:=by unfold gQ;rfl
def tA(ρ:Nat->Option Nat)(H:U):Option Ob->Ob
 | some o=>oy ρ H o
 | none=>.dead
@[simp] theorem auI(ρ:Nat->Option Nat)(H:U)(t g:Nat)(cs:List D):tA ρ H (some (.row t g cs)) = .row t g (cs.map (fy ρ H 40)):=rfl
@[simp] theorem auF(ρ:Nat->Option Nat)(H:U)(kk:KK)(es:List (Value×D)):tA ρ H (some (.map kk es)) = .map kk (es.map λx=>(x.1,fy ρ H 40 x.2)):=rfl
@[simp] theorem auD(ρ:Nat->Option Nat)(H:U):tA ρ H (some .dead) = .dead:=rfl
@[simp] theorem auE(ρ:Nat->Option Nat)(H:U):tA ρ H (some .km) = .km:=rfl
@[simp] theorem auH(ρ:Nat->Option Nat)(H:U)(rf:Nat)(e:Env)(st:rT):tA ρ H (some (.gM rf e st)) = .gM rf (e.map λx=>(x.1,fy ρ H 40 x.2)) st:=rfl
@[simp] theorem asv:Az []=false:=(rfl)
@[simp] theorem asu(k:Nat)(l:List Nat):Az (k::l)=decide (k=9999):=by
 show Nat.beq k 9999=_
 cases a:Nat.beq k 9999 with
 | true=>exact(decide_eq_true (bX a)).symm
 | false=>exact(decide_eq_false (Nat.ne_of_beq_eq_false a)).symm
@[simp] theorem Nn{n:Nat}{l:List Nat}{s:St}:cut n (9999::l) s = { s with env:=forget (9999::l) s.env }:=by unfold cut;dsimp only;rw[if_pos (.inr rfl)]
def No(env:Env)(H:U)(m:List Nat)(r:Bool)(ks:mD):St:={ env:=env.map λp=>(p.1,fy (gX ks) H 40 p.2),H:=ks.map λp=>if p.2 then tA (gX ks) H H[p.1]? else .dead,marks:=m.map λv=>(gX ks v).getD v,gW:=r }
def Qw(n:Nat)(env:Env)(H:U)(m:List Nat):List Nat:=dedup (((env.map λp=>iH n p.2).flatten++((H.take n).map (nN n)).flatten++m.filter (n<=·)).filter (· < H.length))
@[simp low] theorem uZ{n:Nat}{live:List Nat}{env:Env}{H:U}{m:List Nat}{r:Bool}(h:¬H.length<=n)(a:Az live=false):cut n live { env:=env,H:=H,marks:=m,gW:=r }=No (forget live env) H m r (iv n (Qw n (forget live env) H m)):=by unfold cut No Qw;dsimp only;rw[if_neg (by rw[a];simpa using h)];rfl
@[simp] theorem aqQ(K:List Nat):iv 0 K=K.map λv=>(v,true):=rfl
@[simp] theorem aqR(K:List Nat):iv 1 K=(0,true)::K.map λv=>(v,true):=rfl
@[simp] theorem aq2(K:List Nat):iv 2 K=(0,true)::(1,true)::K.map λv=>(v,true):=rfl
@[simp] theorem aq7(K:List Nat):iv 3 K=(0,true)::(1,true)::(2,true)::K.map λv=>(v,true):=rfl
@[simp] theorem aq8(K:List Nat):iv 4 K=(0,true)::(1,true)::(2,true)::(3,true)::K.map λv=>(v,true):=rfl
def yK(i:Nat):mD->Nat->Option Nat
 | [],_=>none
 | p::r,v=>if p.2&&p.1 == v then some i else yK (i+1) r v
theorem ajI(ks:mD)(v:Nat):gX ks v=yK 0 ks v:=by
 have key:∀(ks:mD) (i:Nat),yK i ks v=(ks.findIdx? (λp=>p.2&&p.1 == v)).map (· + i):=by
  intro ks
  induction ks with
  | nil=>intro i;rfl
  | cons p r a=>
   intro i;rw[List.findIdx?_cons];unfold yK;split
   .simp
   .rw[a,Option.map_map];congr 1;funext x;simp;omega
 rw[key];simp[gX]
@[simp] theorem aup(v:Nat):gX [] v=none:=rfl
@[simp] theorem auo(p:Nat×Bool)(r:mD)(v:Nat):gX (p::r) v=if (p.2&&p.1 == v)=true then some 0 else yK 1 r v:=by rw[ajI];rfl
@[simp] theorem aun(i v:Nat):yK i [] v=none:=rfl
@[simp] theorem aum(i:Nat)(p:Nat×Bool)(r:mD)(v:Nat):yK i (p::r) v=if (p.2&&p.1 == v)=true then some i else yK (i+1) r v:=rfl
@[simp] theorem apA(env:Env)(H:U)(m:List Nat)(r:Bool)(ks:mD):No env H m r ks = { env:=env.map λp=>(p.1,fy (gX ks) H 40 p.2),H:=ks.map λp=>if p.2 then tA (gX ks) H H[p.1]? else .dead,marks:=m.map λv=>(gX ks v).getD v,gW:=r }:=rfl
@[simp] theorem at3(n:Nat)(env:Env)(H:U)(m:List Nat):Qw n env H m=dedup (((env.map λp=>iH n p.2).flatten++((H.take n).map (nN n)).flatten++m.filter (n<=·)).filter (· < H.length)):=rfl
@[simp] theorem apC:dedup [] = []:=rfl
@[simp] theorem apB(x:Nat)(r:List Nat):dedup (x::r)=if x∈r then dedup r else x::dedup r:=rfl
theorem MF(n:Nat){d:D}(h:closed d=true):iH n d = []:=by cases d<;>first|rfl|cases h
@[simp] theorem avF(n:Nat)(l:List Int):iH n (dI l) = []:=rfl
@[simp] theorem avK(n:Nat)(l:List Pos):iH n (gC l) = []:=rfl
@[simp] theorem avI(n:Nat)(p:Pos):iH n (dP p) = []:=rfl
@[simp] theorem avJ(n:Nat)(l:List fq):iH n (gQ l) = []:=rfl
@[simp] theorem avE(n:Nat)(g:fu):iH n (dG g) = []:=rfl
@[simp] theorem avC(n:Nat)(g:fu):iH n g.jb = []:=rfl
@[simp] theorem avG{α:Type}(n sz:Nat)(f:α->List D)(l:List α):iH n (dN sz f l) = []:=by cases l<;>rfl
@[simp] theorem avW(n:Nat)(v:Value):iH n (.val v) = []:=rfl
@[simp] theorem avB(n:Nat):iH n .any = []:=rfl
@[simp] theorem avN(n:Nat):iH n .fw = []:=rfl
@[simp] theorem avA(n:Nat)(cs:List D):iH n (.agg cs) = []:=rfl
@[simp] theorem avV(n:Nat)(cs:List D):iH n (.tup cs) = []:=rfl
@[simp] theorem avP(n:Nat)(cs:List D):iH n (.fH cs) = []:=rfl
@[simp] theorem avU(n sz:Nat)(es:List (List D)):iH n (.sl sz es) = []:=rfl
@[simp] theorem avO(n:Nat)(f:Fn)(a b:List D):iH n (.fn f a b) = []:=rfl
@[simp] theorem avS(n v g sz off len:Nat):iH n (.fm v g sz off len)=if n<=v then [v]else []:=rfl
@[simp] theorem avT(n v g off:Nat):iH n (.ptr v g off)=if n<=v then [v]else []:=rfl
@[simp] theorem avR(n v:Nat):iH n (.fV v)=if n<=v then [v]else []:=rfl
@[simp] theorem avX(n v:Nat):iH n (.iw v)=if n<=v then [v]else []:=rfl
theorem ajA(n:Nat){cs:List D}(h:fR cs=true):(cs.map (iH n)).flatten = []:=by
 induction cs with
 | nil=>rfl
 | cons d r a=>
  simp only[fR,Bool.and_eq_true]at h;simp[MF n h.1,a h.2]
@[simp] theorem ao1(n:Nat){α:Type}{f:α->List D}{sz:Nat}[F:Fl f sz](l:List α):((cl f l).map (iH n)).flatten = []:=ajA n (tL l)
@[simp] theorem as9(n t g:Nat)(cs:List D):nN n (.row t g cs)=(cs.map (iH n)).flatten:=rfl
@[simp] theorem as6(n:Nat)(kk:KK)(es:List (Value×D)):nN n (.map kk es)=(es.map λx=>iH n x.2).flatten:=rfl
@[simp] theorem as4(n:Nat):nN n .dead = []:=rfl
theorem V2{H:U}{d:D}(h:H≠[]):leave 0 0 H d=(fy (λ_=>none) H 40 d,[]):=by unfold leave;rw[if_neg (by rintro(e|e);exact h (az.1 (by omega));cases e)];rfl
@[simp] theorem arH{o:Ob}{r:U}{d:D}:leave 0 0 (o::r) d=(fy (λ_=>none) (o::r) 40 d,[]):=V2 (by simp)
attribute [simp] and_assoc Kind.cells Clause.cells dP Pos.cells dG fu.cells fu.jb
def jY(T:gO)(n:Nat)(live:List Nat)(a:IR)(s:St)(K:iq)(_:Tag (live,a,s,K)):Prop:=Ev T (.loop n live (kD a) s) (PO K)
def LG(T:gO)(n:Nat)(live:List Nat)(a:IR)(K:iq):iq:=λo=>match o with
 | .norm s=>jY T n live a (cut n live s) K .mk
 | o=>K o
def Xv(T:gO)(v rf:Nat)(b:IR)(dst:Option Nat)(s:St)(K:St->Prop):iq:=λo=>match o with
 | .norm s1=>∃a,s1.H[v]? = some (.gM rf a .ready)/\XC T b { s1 with H:=s1.H.set v (.gM rf a .busy) } (AM v rf dst s K)
 | _=>False
theorem rl.r{T:gO}{v rf:Nat}{args:List D}{dst:Option Nat}{s:St}{K:St->Prop}{env0:Env}{Rd:pq}(e:s.H[v]? = some (.gM rf env0 .ready))(i:T.round rf=some Rd)(hl:args.length=Rd.params.length)
  (c b:IR) (g:kD c=Rd.a) (f:kD b=Rd.b)
  (h:XC T c { env:=sQ Rd.params args env0,H:=s.H,gW:=true } (Xv T v rf b dst s K)):rl T v args dst s K .mk:=by
 refine⟨rf,env0,Rd,e,i,hl,?_⟩;rw[<-g];refine(XC.wc h).mono λo a=>?_
 cases o with
 | norm s1=>
  obtain⟨d,h1,j⟩:=a;exact⟨s1,d,rfl,h1,by rw[<-f];exact XC.wc j⟩
 | exit=>exact a.elim
 | ret=>exact a.elim
def ajK(rf:Nat)(s:St)(K:iq):D->U->Prop:=λ_ H'=>∃env st,H'[s.H.length+1]? = some (.gM rf env st)/\oA (AJ { s with H:=H'.set (s.H.length+1) .dead,marks:=s.H.length::s.marks } st) K .mk
theorem xC.r{T:gO}{rf:Nat}{live:List Nat}{x:X}{s:St}{K:iq}{f:FuncId}{first cap:List D}{fn:iE}(b:s.gW=false)(a:ev s.env.get x = .fn (.func f) first cap)(e:T.fn f=some fn)(c:fn.full=true)
  (h:Wf T f (first ++ [.iw (s.H.length+1)]++cap) (s.H ++ [.km,.gM rf (forget live s.env) .ready]) (ajK rf s K)):xC T rf live x s K .mk:=
 Ev.mZ b a e c h λd H' ⟨d',H2,g,env,st,h1,o,j,i⟩=>by cases g;exact⟨env,st,o,h1,j,o,rfl,i⟩
section
variable{T:gO}{n:Nat}{live:List Nat}{a:IR}{s:St}{K:iq}{id:Nat}
theorem fE.un(h:jY T s.H.length live a { s with env:=forget live s.env } K .mk):fE T live a s K .mk:=Ev.loop h
theorem jY.u(h:XC T a s (LG T n live a K)):jY T n live a s K .mk:=by
 refine Ev.yB (XC.wc h) (λb ⟨o,e,k⟩=>?_) λo ⟨o',e,k⟩ hs=>?_
 .cases e;exact k
 .cases e
  cases o with
  | norm=>cases hs
  | exit=>exact⟨_,rfl,k⟩
  | ret=>exact⟨_,rfl,k⟩
@[simp ↓] theorem asa:LG T n live a K (.norm s)=jY T n live a (cut n live s) K .mk:=(rfl)
@[simp ↓] theorem ar9:LG T n live a K (.exit id s)=K (.exit id s):=(rfl)
@[simp ↓] theorem asb:LG T n live a K (.ret s)=K (.ret s):=(rfl)
end
theorem Xk{x b:Bool}{P Q:Prop}(k:cond b P Q)(h:x=b:=by first|(show _=true;first|assumption|exact decide_eq_true (by assumption))|(show _=false;first|assumption|exact decide_eq_false (by assumption))):X2 x P Q .mk:=by subst h;cases x<;>simpa using k
class PB (x:Bool) (I:outParam (Prop->Prop)) (q:outParam Prop):Prop where
 t:∀ {P:Prop},I P->x=true->P
 f:x=false->q
instance(priority:=low){x:Bool}:PB x (λP=>x=true->P) (x=false):=⟨λh e=>h e,id⟩
instance{p:Prop}[Decidable p]:PB (decide p) (λP=>p->P) (¬p):=⟨λh e=>h (of_decide_eq_true e),of_decide_eq_false⟩
instance{p q:Prop}[Decidable p][Decidable q]:PB (decide p&&decide q) (λP=>p->q->P) (¬(p/\q)):=⟨λh e=>by
 rw[<-dp]at e
 exact h (of_decide_eq_true e).1 (of_decide_eq_true e).2,λe=>by rw[<-dp]at e;exact of_decide_eq_false e⟩
instance{p q:Prop}[Decidable p][Decidable q]:PB (decide p||decide q) (λP=>p\/q->P) (¬(p\/q)):=⟨λh e=>by
 rw[<-eZ]at e
 exact h (of_decide_eq_true e),λe=>by rw[<-eZ]at e;exact of_decide_eq_false e⟩
theorem Xs{x:Bool}{I:Prop->Prop}{q P Q:Prop}[c:PB x I q](h:I P)(k:q->Q):X2 x P Q .mk:=⟨c.t h,λe=>k (c.f e)⟩
theorem Yc{T:gO}{f:FuncId}{args:List D}{dst:Option Nat}{s:St}{K:St->Prop}{fn:iE}{x:D}(h:Wf T f args [] λd H'=>d=x/\H' = [])(k:K { s with env:=put s.env dst x })
  (c:T.fn f=some fn:=by exact rfl) (b:fn.full=false:=by exact rfl) (e:fR args=true:=by simp) (a:closed x=true:=by simp):fL T f args dst s K .mk:=fL.c c b h e a k
theorem Yt{T:gO}{f:FuncId}{args:List D}{R:List Fp}{dst:Option Nat}{s:St}{Q:Rc->St->Prop}{fn:iE}{x:D}(h:Wf T f args [] λd H'=>d=x/\H' = [])(k:Q ⟨R,[]⟩ { s with env:=put s.env dst x })
  (c:T.fn f=some fn:=by exact rfl) (b:fn.full=false:=by exact rfl) (e:fR args=true:=by simp) (a:closed x=true:=by simp):iy T f args R dst s Q .mk:=iy.c c b h e a k
theorem Yr{T:gO}{f:FuncId}{args ny:List D}{dst:Option Nat}{s:St}{K:St->Prop}{fn:iE}{x:D}(h:Wf T f ny [] λd H'=>d=x/\H' = [])(k:K { s with env:=put s.env dst x })
  (e:T.fn f=some fn:=by exact rfl) (c:fn.full=false:=by exact rfl) (hs:args.map (fy (λ_=>none) s.H 40)=ny:=by simp) (b:flat x=true:=by simp[flat]) (a:closed x=true:=by simp):fL T f args dst s K .mk:=fL.r e c h hs b a k
theorem Yg{T:gO}{f:FuncId}{args:List D}{H:U}(fn:iE){K:D->U->Prop}(h:XC T fn.body { env:=sJ args,H:=H } (xU fn.results fn.own H.length K))
  (b:T.fn f=some fn:=by exact rfl) (hl:args.length<=fn.ntmps:=by exact cN rfl) (a:sL fn.body=true:=by exact rfl):Wf T f args H K:=Wf.x b hl h a
theorem Yz{T:gO}{f:FuncId}{args:List D}{H:U}(fn:iE)(c:IR){K:D->U->Prop}(h:XC T c { env:=sJ args,H:=H } (xU fn.results fn.own H.length K))
  (a:T.fn f=some fn:=by exact rfl) (hl:args.length<=fn.ntmps:=by exact cN rfl) (b:kD c=fn.body:=by simp only[yT,yU];exact oB rfl):Wf T f args H K:=Wf.xz fn.own c a hl b h
structure Bx(p:Prop):Prop where
 x:p
theorem lZ{P:Prop}(h:P:=by(with_reducible repeat' first|refine Xk ?_<;>try simp|refine Xs ?_ ?_<;>intro h<;>(try intro a)<;>(try simp[h])<;>try omega|refine Xg ?_|omega)):P:=h
theorem fo{P Q:Prop}(k:Q)(h:Bx Q->P:=by intro k;(with_reducible repeat' first|refine Xk ?_<;>try simp|refine Xs ?_ ?_<;>intro h<;>(try intro a)<;>(try simp[h])<;>try omega|refine Xg ?_|omega);exact k.x):P:=h ⟨k⟩
theorem ju{P Q R:Prop}(k:Q)(l:R)(h:Bx Q->Bx R->P:=by intro k l;(with_reducible repeat' first|refine Xk ?_<;>try simp|refine Xs ?_ ?_<;>intro h<;>(try intro a)<;>(try simp[h])<;>try omega|refine Xg ?_|omega);(revert h;exact k.x);(revert h;exact l.x)):P:=h ⟨k⟩ ⟨l⟩
theorem ja{A P Q:Prop}(a:A)(k:Q)(h:A->Bx Q->P:=by intro a k;(with_reducible repeat' first|refine Xk ?_<;>try simp[a]|refine Xs ?_ ?_<;>intro h<;>(try intro b)<;>(try simp[h,a])<;>try omega|refine Xg ?_|omega);exact k.x):P:=h a ⟨k⟩
theorem JE{A P Q R:Prop}(a:A)(k:Q)(l:R)(h:A->Bx Q->Bx R->P:=by intro a k l;(with_reducible repeat' first|refine Xk ?_<;>try simp[a]|refine Xs ?_ ?_<;>intro h<;>(try intro b)<;>(try simp[h,a])<;>try omega|refine Xg ?_|omega);(revert h;exact k.x);(revert h;exact l.x)):P:=h a ⟨k⟩ ⟨l⟩
theorem kl{A B P Q:Prop}(b:A)(a:B)(k:Q)(h:A->B->Bx Q->P:=by intro b a k;(with_reducible repeat' first|refine Xk ?_<;>try simp[b,a]|refine Xs ?_ ?_<;>intro h<;>(try intro c)<;>(try simp[h,b,a])<;>try omega|refine Xg ?_|omega);exact k.x):P:=h b a ⟨k⟩
theorem YE{A B C P:Prop}(c:A)(b:B)(a:C)(h:A->B->C->P:=by intro c b a;(with_reducible repeat' first|refine Xk ?_<;>try simp[c,b,a]|refine Xs ?_ ?_<;>intro h<;>(try intro d)<;>(try simp[h,c,b,a])<;>try omega|refine Xg ?_|omega)):P:=h c b a
theorem pR{A B C P Q:Prop}(c:A)(b:B)(a:C)(k:Q)(h:A->B->C->Bx Q->P:=by intro c b a k;(with_reducible repeat' first|refine Xk ?_<;>try simp[c,b,a]|refine Xs ?_ ?_<;>intro h<;>(try intro d)<;>(try simp[h,c,b,a])<;>try omega|refine Xg ?_|omega);exact k.x):P:=h c b a ⟨k⟩
theorem YF{A B C P Q R:Prop}(c:A)(b:B)(a:C)(k:Q)(l:R)(h:A->B->C->Bx Q->Bx R->P:=by intro c b a k l;(with_reducible repeat' first|refine Xk ?_<;>try simp[c,b,a]|refine Xs ?_ ?_<;>intro h<;>(try intro d)<;>(try simp[h,c,b,a])<;>try omega|refine Xg ?_|omega);(revert h;exact k.x);(revert h;exact l.x)):P:=h c b a ⟨k⟩ ⟨l⟩
theorem Bl{A B C D P Q:Prop}(d:A)(c:B)(b:C)(a:D)(k:Q)(h:A->B->C->D->Bx Q->P:=by intro d c b a k;(with_reducible repeat' first|refine Xk ?_<;>try simp[d,c,b,a]|refine Xs ?_ ?_<;>intro h<;>(try intro e)<;>(try simp[h,d,c,b,a])<;>try omega|refine Xg ?_|omega);exact k.x):P:=h d c b a ⟨k⟩
