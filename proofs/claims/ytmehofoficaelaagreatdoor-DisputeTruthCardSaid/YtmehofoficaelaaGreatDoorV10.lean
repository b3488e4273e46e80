/- Part 10 of DisputeTruth. -/
import Derived.Test.YtmehofoficaelaaGreatDoorV09
set_option linter.all false
namespace Go.AL
open Go
universe u
inductive Tag{α:Sort u}(a:α):Type
 | mk
def oA{α:Type}(x:Option α)(P:α->Prop)(_:Tag P):Prop:=∃a,x=some a/\P a
@[simp] theorem zW{α:Type}(a:α)(P:α->Prop):oA (some a) P .mk=P a:=by simp[oA]
@[simp] theorem Zp{α:Type}(P:α->Prop):oA none P .mk=False:=by simp[oA]
@[simp high] theorem BT{α:Type}{c:Prop}[Decidable c](x:Option α)(P:α->Prop):oA (if c then x else none) P .mk=(c/\oA x P .mk):=by by_cases h:c<;>simp[h]
@[simp] theorem av6{α:Type}{c:Prop}[Decidable c](x y:Option α)(P:α->Prop):oA (if c then x else y) P .mk=((c->oA x P .mk)/\(¬c->oA y P .mk)):=by by_cases h:c<;>simp[h]
@[simp] theorem av7(x:Option D)(P:D×Dl->Prop):oA (lift x) P .mk=oA x (λd=>P (d,.no)) .mk:=by cases x<;>simp[lift]
@[simp] theorem avU{α b:Type}(x:Option α)(f:α->Option b)(P:b->Prop):oA (x.bind f) P .mk=oA x (λa=>oA (f a) P .mk) .mk:=by cases x<;>simp
def gB:D->Bool->Option Bool
 | .val (.bool b),want=>some (b == want)
 | .val (.tuple _),_=>some false
 | _,_=>none
@[simp] theorem atr(a:Bool):gB (.val undef) a=some false:=rfl
@[simp] theorem atq(x:Bool):gB (.b x) true=some x:=by cases x<;>rfl
@[simp] theorem atp(x:Bool):gB (.b x) false=some (!x):=by cases x<;>rfl
@[simp] theorem atD(f:gL):guardOf f none=some true:=rfl
@[simp] theorem atE(f:gL)(j:Nat)(w:Bool):guardOf f (some (j,w))=gB (f j) w:=by show(match f j with | .val (.bool b)=>some (b == w) | .val (.tuple _)=>some false|_=>none)=gB (f j) w;unfold gB;split<;>simp_all
@[simp] theorem asT(f:gL)(k:Nat):ev f (.t k)=f k:=rfl
@[simp] theorem asS(f:gL)(d:D):ev f (.c d)=d:=rfl
@[simp] theorem aw4(env:Env)(k:Nat)(d:D):put env (some k) d=(k,d)::env:=rfl
@[simp] theorem aw3(env:Env)(d:D):put env none d=env:=rfl
@[simp] theorem aqB(H:U)(al:Al):Dl.no.app H al=H:=rfl
@[simp] theorem aqA(H:U)(al:Al)(ob:Ob):(Dl.new ob).app H al=al.2 ob:=rfl
@[simp] theorem aqC(H:U)(al:Al)(v:Nat)(ob:Ob):(Dl.obj v ob).app H al=H.set v ob:=rfl
def setCells(H:U)(v o:Nat)(xs:List D):Option Ob->U
 | some (.row t g cs)=>H.set v (.row t g (cs.take o++xs++cs.drop (o+xs.length)))
 | _=>H
@[simp] theorem aqx(H:U)(al:Al)(v o:Nat)(xs:List D):(Dl.cells v o xs).app H al=setCells H v o xs H[v]? := by show(match H[v]? with|some (.row t g cs)=>H.set v (.row t g (cs.take o++xs++cs.drop (o+xs.length)))|_=>H)=_;unfold setCells;split<;>simp_all
@[simp] theorem axB(H:U)(v o:Nat)(xs:List D)(t g:Nat)(cs:List D):setCells H v o xs (some (.row t g cs))=H.set v (.row t g (cs.take o++xs++cs.drop (o+xs.length))):=rfl
def yv(k:IntKind)(a b:Int):Int:=k.wrap (a*2 ^ (min b.toNat k.bits))
def mj(k:IntKind)(a b:Int):Int:=a.fdiv (2 ^ (min b.toNat k.bits))
section
variable{k:IntKind}{a b:Int}
@[simp] theorem aqS:kN .add (.val (.int k a)) (.val (.int k b))=jN .add k a b:=by simp[kN,pF]
@[simp] theorem aq8:kN .sub (.val (.int k a)) (.val (.int k b))=jN .sub k a b:=by simp[kN,pF]
@[simp] theorem aq0:kN .mul (.val (.int k a)) (.val (.int k b))=jN .mul k a b:=by simp[kN,pF]
@[simp] theorem aq3:kN .quo (.val (.int k a)) (.val (.int k b))=jN .quo k a b:=by simp[kN,pF]
@[simp] theorem aq4:kN .rem (.val (.int k a)) (.val (.int k b))=jN .rem k a b:=by simp[kN,pF]
@[simp] theorem aqT:kN .and (.val (.int k a)) (.val (.int k b))=some (.val (.int k (bits .and k a b))):=by simp[kN,pF,jN]
@[simp] theorem aq2:kN .or (.val (.int k a)) (.val (.int k b))=some (.val (.int k (bits .or k a b))):=by simp[kN,pF,jN]
@[simp] theorem aq9:kN .xor (.val (.int k a)) (.val (.int k b))=some (.val (.int k (bits .xor k a b))):=by simp[kN,pF,jN]
@[simp] theorem aqU:kN .andNot (.val (.int k a)) (.val (.int k b))=some (.val (.int k (bits .andNot k a b))):=by simp[kN,pF,jN]
@[simp] theorem aqV:kN .eql (.val (.int k a)) (.val (.int k b))=some (.b (decide (a=b))):=by simp[kN,pF,jN,BEq.beq]
@[simp] theorem aq1:kN .neq (.val (.int k a)) (.val (.int k b))=some (.b (!decide (a=b))):=by simp[kN,pF,jN,bne,BEq.beq]
@[simp] theorem aqZ:kN .lss (.val (.int k a)) (.val (.int k b))=some (.b (decide (a<b))):=by simp[kN,pF,jN]
@[simp] theorem aqY:kN .leq (.val (.int k a)) (.val (.int k b))=some (.b (decide (a<=b))):=by simp[kN,pF,jN]
@[simp] theorem aqX:kN .gtr (.val (.int k a)) (.val (.int k b))=some (.b (decide (a>b))):=by simp[kN,pF,jN]
@[simp] theorem aqW:kN .geq (.val (.int k a)) (.val (.int k b))=some (.b (decide (a>=b))):=by simp[kN,pF,jN]
@[simp] theorem aq5{k2:IntKind}:kN .shl (.val (.int k a)) (.val (.int k2 b))=if 0<=b then some (.val (.int k (yv k a b)))else none:=rfl
@[simp] theorem aq6{k2:IntKind}:kN .shr (.val (.int k a)) (.val (.int k2 b))=if 0<=b then some (.val (.int k (mj k a b)))else none:=rfl
@[simp] theorem aq7(op:BinOp)(s t:ByteArray):kN op (.val (.string s)) (.val (.string t))=EB op s t:=rfl
@[simp] theorem ay6(x:Bool):ED .not (.b x)=some (.b !x):=rfl
@[simp] theorem ay5(n:Int):ED .neg (.i n)=if nU (-n)then some (.i (-n))else none:=rfl
@[simp] theorem asG(b:IntKind):Mb b (.val (.int k a))=some (.val (.int b (b.wrap a))):=rfl
end
@[simp] theorem asZ(off v g o:Nat):FZ off (.ptr v g o)=some (.ptr v g (o+off)):=rfl
@[simp] theorem asY(off:Nat)(cs:List D):FZ off (.gi cs)=some (.gi (cs.drop off)):=rfl
@[simp] theorem as0(off n:Nat)(cs:List D):AU off n true (.agg cs)=if off+n<=cs.length then some (.agg ((cs.drop off).take n))else none:=rfl
@[simp] theorem as1(off n:Nat)(cs:List D):AU off n false (.agg cs)=cs[off]? := rfl
@[simp] theorem asU(ds:List D)(i:Nat):Mv (.tup ds) i=ds[i]? := rfl
@[simp] theorem avD(v g o:Nat):BQ (.ptr v g o)=some (.ptr v g o):=rfl
@[simp] theorem avC(cs:List D):BQ (.gi cs)=some (.gi cs):=rfl
@[simp] theorem avB(f:FuncId)(a b:List D):BQ (.fn (.func f) a b)=some (.fn (.func f) a b):=rfl
@[simp] theorem avE(v:Nat):BQ (.iP v)=some (.iP v):=rfl
def rowOf(k:Nat):Option Ob->Option (TypeId×List D)
 | some (.row t g cs)=>if g=k then some (t,cs)else none
 | _=>none
@[simp] theorem amU(H:U)(v k:Nat):rowAt H v k=rowOf k H[v]? := by unfold rowAt rowOf;split<;>simp_all
@[simp] theorem axA(k:Nat)(t:TypeId)(g:Nat)(cs:List D):rowOf k (some (.row t g cs))=if g=k then some (t,cs)else none:=rfl
@[simp] theorem auG(v g o:Nat)(H:U):wW (.ptr v g o) H=(rowAt H v g).bind λp=>p.2[o]? := by show(match rowAt H v g with|some (_,cs)=>cs[o]? | none=>none)=_;cases rowAt H v g<;>rfl
@[simp] theorem auF(cs:List D)(H:U):wW (.gi cs) H=cs[0]? := rfl
def uE(n o:Nat):Option (TypeId×List D)->Option D
 | some p=>if o+n<=p.2.length then some (.agg ((p.2.drop o).take n))else none
 | none=>none
@[simp] theorem auN(n o:Nat):uE n o none=none:=rfl
@[simp low] theorem auO(n o:Nat)(p:TypeId×List D):uE n o (some p)=if o+n<=p.2.length then some (.agg ((p.2.drop o).take n))else none:=rfl
@[simp] theorem auI(n v g o:Nat)(H:U):vI n (.ptr v g o) H=uE n o (rowAt H v g):=by show(match rowAt H v g with|some (_,cs)=>if o+n<=cs.length then some (D.agg ((cs.drop o).take n))else none|none=>none)=_;cases rowAt H v g<;>rfl
@[simp] theorem auH(n:Nat)(cs:List D)(H:U):vI n (.gi cs) H=if n<=cs.length then some (.agg (cs.take n))else none:=rfl
@[simp] theorem ayz(v g o:Nat)(x:D)(H:U):Ce (.ptr v g o) x H=(rowAt H v g).bind λp=>if o<p.2.length/\one x=true then some (.any,.cells v o [x])else none:=by show(match rowAt H v g with|some (_,cs)=>if o<cs.length/\one x=true then some (D.any,Dl.cells v o [x])else none|none=>none)=_;cases rowAt H v g<;>rfl
@[simp] theorem ayA(n v g o:Nat)(xs:List D)(H:U):Ch n (.ptr v g o) (.agg xs) H=(rowAt H v g).bind λp=>if xs.length=n/\o+n<=p.2.length then some (.any,.cells v o xs)else none:=by show(match rowAt H v g with|some (_,cs)=>if xs.length=n/\o+n<=cs.length then some (D.any,Dl.cells v o xs)else none|none=>none)=_;cases rowAt H v g<;>rfl
@[simp] theorem arh(t:TypeId)(cs:List D)(n:Nat):sA t (.agg cs) n=some (.ptr n 0 0,.new (.row t 0 cs)):=rfl
@[simp] theorem arC(cs:List D):cellsOf (.agg cs)=some cs:=rfl
@[simp] theorem arO(k:IntKind)(n:Int):cellsOf (.val (.int k n))=some [.val (.int k n)]:=rfl
@[simp] theorem arD(b:Bool):cellsOf (.b b)=some [.b b]:=rfl
@[simp] theorem arT(b:ByteArray):cellsOf (.val (.string b))=some [.val (.string b)]:=rfl
@[simp] theorem arS(sz:Nat)(es:List (List D)):cellsOf (.sl sz es)=some [.sl sz es]:=rfl
@[simp] theorem arF(l:List Int):cellsOf (dI l)=some [dI l]:=rfl
@[simp] theorem arI(l:List Pos):cellsOf (gQ l)=some [gQ l]:=rfl
@[simp] theorem arH(l:List fO):cellsOf (ie l)=some [ie l]:=rfl
@[simp] theorem arG{α:Type}(sz:Nat)(f:α->List D)(l:List α):cellsOf (dN sz f l)=some [dN sz f l]:=by cases l<;>rfl
@[simp] theorem arL:cellsOf .fX=some [.fX]:=rfl
@[simp] theorem arQ(v g sz off n:Nat):cellsOf (.fM v g sz off n)=some [.fM v g sz off n]:=rfl
@[simp] theorem arR(v g o:Nat):cellsOf (.ptr v g o)=some [.ptr v g o]:=rfl
@[simp] theorem arN(cs:List D):cellsOf (.gi cs)=some [.gi cs]:=rfl
@[simp] theorem arP(v:Nat):cellsOf (.gx v)=some [.gx v]:=rfl
@[simp] theorem arM(f:Fn)(a b:List D):cellsOf (.fn f a b)=some [.fn f a b]:=rfl
@[simp] theorem awI(k:IntKind)(n:Int):one (.val (.int k n))=true:=rfl
@[simp] theorem awz(b:Bool):one (.b b)=true:=rfl
@[simp] theorem awN(b:ByteArray):one (.val (.string b))=true:=rfl
@[simp] theorem awM(sz:Nat)(es:List (List D)):one (.sl sz es)=true:=rfl
@[simp] theorem awB(l:List Int):one (dI l)=true:=rfl
@[simp] theorem awD(l:List Pos):one (gQ l)=true:=rfl
@[simp] theorem awC(l:List fO):one (ie l)=true:=rfl
@[simp] theorem awF:one .fX=true:=rfl
@[simp] theorem awK(v g sz off n:Nat):one (.fM v g sz off n)=true:=rfl
@[simp] theorem awL(v g o:Nat):one (.ptr v g o)=true:=rfl
@[simp] theorem awH(cs:List D):one (.gi cs)=true:=rfl
@[simp] theorem awJ(v:Nat):one (.gx v)=true:=rfl
@[simp] theorem awG(f:Fn)(a b:List D):one (.fn f a b)=true:=rfl
@[simp] theorem aru(f:gL)(z:List D)(ps:List (Nat×Nat×X)):CT f z ps=(partsOf f ps).bind λl=>(lay l z).bind λcs=>some (D.agg cs):=by
 unfold CT;cases partsOf f ps with
 | none=>rfl
 | some l=>simp only[Option.bind_some];cases lay l z<;>rfl
@[simp] theorem art(f:gL)(t sz:Nat)(z:List D)(m:Nat)(ps:List (Nat×X))(n:Nat):yT f t sz z m ps n=(partsOf f (ps.map λp=>(p.1*sz,sz,p.2))).bind λl=>(lay l (List.replicate m z).flatten).bind λcs=>some (.fM n 0 sz 0 m,.new (.row t 0 cs)):=by
 unfold yT;cases partsOf f (ps.map λp=>(p.1*sz,sz,p.2))with
 | none=>rfl
 | some l=>simp only[Option.bind_some];cases lay l (List.replicate m z).flatten<;>rfl
@[simp] theorem awV(f:gL):partsOf f []=some []:=rfl
@[simp] theorem awU(f:gL)(o n:Nat)(x:X)(r:List (Nat×Nat×X)):partsOf f ((o,n,x)::r)=(cellsOf (ev f x)).bind λcs=>(partsOf f r).bind λl=>some ((o,n,cs)::l):=by show(match cellsOf (ev f x),partsOf f r with|some cs,some l=>some ((o,n,cs)::l)|_,_=>none)=_;cases cellsOf (ev f x)<;>cases partsOf f r<;>rfl
@[simp] theorem af1(vs:List Value)(k:IntKind)(n:Int):mB 1 (.lS vs) (.val (.int k n))=if 0<=n/\n<vs.length then some (.gi [.val (vs.getD n.toNat undef)])else none:=by simp[mB]
@[simp] theorem auW(vs:List Value)(H:U):mK .slice (.lS vs) H=some (.i vs.length):=rfl
@[simp] theorem atW(sz v g off len:Nat)(k:IntKind)(n:Int):mB sz (.fM v g sz off len) (.val (.int k n))=if 0<=n/\n<len then some (.ptr v g ((off+n.toNat)*sz))else none:=by simp[mB]
@[simp] theorem atY(sz n v g o:Nat)(k:IntKind)(i:Int):G9 sz n (.ptr v g o) (.val (.int k i))=if 0<=i/\i<n then some (.ptr v g (o+i.toNat*sz))else none:=rfl
@[simp] theorem atX(sz n:Nat)(cs:List D)(k:IntKind)(i:Int):G9 sz n (.gi cs) (.val (.int k i))=if 0<=i/\i<n then some (.gi (cs.drop (i.toNat*sz)))else none:=rfl
@[simp] theorem atZ(sz n:Nat)(b:Bool)(cs:List D)(k:IntKind)(i:Int):Ny sz n b (.agg cs) (.val (.int k i))=if 0<=i/\i<n then AU (i.toNat*sz) sz b (.agg cs)else none:=rfl
@[simp] theorem arf(f:gL)(n:Int):gY f none n=some n:=rfl
def tE:D->Option Int
 | .val (.int _ n)=>some n
 | _=>none
@[simp] theorem at1(k:IntKind)(n:Int):tE (.val (.int k n))=some n:=rfl
@[simp] theorem UJ(f:gL)(x:X)(n:Int):gY f (some x) n=tE (ev f x):=by show(match ev f x with | .val (.int _ n)=>some n|_=>none)=_;unfold tE;split<;>simp_all
@[simp] theorem To(f:gL)(sz:Nat)(es:List (List D))(lo hi:Option X):tS f sz (.sl sz es) lo hi=(gY f lo 0).bind λl=>(gY f hi es.length).bind λh=>if 0<=l/\l<=h/\h<=es.length then some (.sl sz ((es.drop l.toNat).take (h.toNat-l.toNat)))else none:=by simp only[tS];cases gY f lo 0<;>cases gY f hi es.length<;>simp
@[simp] theorem ayq(f:gL)(sz v g off len:Nat)(lo hi:Option X):tS f sz (.fM v g sz off len) lo hi=(gY f lo 0).bind λl=>(gY f hi len).bind λh=>if 0<=l/\l<=h/\h<=len then some (.fM v g sz (off+l.toNat) (h.toNat-l.toNat))else none:=by simp only[tS];cases gY f lo 0<;>cases gY f hi len<;>simp
@[simp] theorem ayp(f:gL)(sz:Nat)(lo hi:Option X):tS f sz .fX lo hi=(gY f lo 0).bind λl=>(gY f hi 0).bind λh=>if l=0/\h=0 then some .fX else none:=by simp only[tS];cases gY f lo 0<;>cases gY f hi 0<;>simp
@[simp] theorem ano(f:gL)(sz:Nat)(es:List (List D))(lo:Option X)(hi mx:X):yw f sz (.sl sz es) lo hi mx=(gY f lo 0).bind λl=>(tE (ev f hi)).bind λh=>(tE (ev f mx)).bind λm=>if 0<=l/\l<=h/\h=m/\m<=es.length then some (clip sz ((es.drop l.toNat).take (h.toNat-l.toNat)))else none:=by simp only[yw,UJ];cases gY f lo 0<;>cases tE (ev f hi)<;>cases tE (ev f mx)<;>simp
@[simp] theorem ayk(f:gL)(sz:Nat)(lo:Option X)(hi mx:X):yw f sz .fX lo hi mx=(gY f lo 0).bind λl=>(tE (ev f hi)).bind λh=>(tE (ev f mx)).bind λm=>if l=0/\h=0/\m=0 then some .fX else none:=by simp only[yw,UJ];cases gY f lo 0<;>cases tE (ev f hi)<;>cases tE (ev f mx)<;>simp
@[simp] theorem ayl(f:gL)(sz n v g o:Nat)(lo hi:Option X)(H:U):Ah f sz n (.ptr v g o) lo hi H=(gY f lo 0).bind λl=>(gY f hi n).bind λh=>(rowAt H v g).bind λp=>if o % sz=0/\o+n*sz<=p.2.length/\n<=16777216/\0<=l/\l<=h/\h<=n then some (.fM v g sz (o / sz+l.toNat) (h.toNat-l.toNat))else none:=by
 simp only[Ah]
 cases gY f lo 0 with
 | none=>rfl
 | some l=>cases gY f hi n with
  | none=>rfl
  | some h=>dsimp only;cases rowAt H v g<;>rfl
theorem Ow{α:Type}(f:α->List D)(l:List α)(a b:Nat):((l.map f).drop a).take b=((l.drop a).take b).map f:=by rw[List.map_take,List.map_drop]
@[simp] theorem ayn(f:gL)(l:List Pos)(lo hi:Option X):tS f 5 (gQ l) lo hi=(gY f lo 0).bind λa=>(gY f hi l.length).bind λh=>if 0<=a/\a<=h/\h<=l.length then some (gQ ((l.drop a.toNat).take (h.toNat-a.toNat)))else none:=by unfold gQ;rw[To,List.length_map];simp only[Ow]
@[irreducible] def cl{α:Type}(f:α->List D)(l:List α):List D:=(l.map f).flatten
theorem nX{α:Type}(f:α->List D)(l:List α):cl f l=(l.map f).flatten:=by rw[cl]
@[simp] theorem ans(sz:Nat)(H:U)(es:List (List D)):kR sz H (.sl sz es)=some (es.flatten,es.length):=by simp[kR]
@[simp] theorem Il{α:Type}(sz:Nat)(f:α->List D)(H:U)(l:List α):kR sz H (.sl sz (l.map f))=some (cl f l,l.length):=by rw[ans,List.length_map,nX]
@[simp] theorem ayr(H:U)(l:List Int):kR 1 H (dI l)=some (cl f1 l,l.length):=by unfold dI;exact Il ..
@[simp] theorem ayu(H:U)(l:List Pos):kR 5 H (gQ l)=some (cl Pos.cells l,l.length):=by unfold gQ;exact Il ..
@[simp] theorem ays{α:Type}(sz:Nat)(f:α->List D)(H:U)(l:List α):kR sz H (dN sz f l)=some (cl f l,l.length):=by
 cases l with
 | nil=>show some ([],0)=_;rw[nX];rfl
 | cons a l=>exact Il sz f H (a::l)
@[simp] theorem ayw(sz:Nat)(H:U):kR sz H .fX=some ([],0):=rfl
@[simp] theorem ayy(sz:Nat)(H:U)(v g off len:Nat):kR sz H (.fM v g sz off len)=(rowAt H v g).bind λp=>if (off+len)*sz<=p.2.length then some ((p.2.drop (off*sz)).take (len*sz),len)else none:=by simp only[kR];cases rowAt H v g<;>simp
@[simp] theorem aqD(t sz bytes v g len:Nat)(y:D)(H:U)(a:Nat):sy t sz bytes (.fM v g sz 0 len) y H a=(kR sz H y).bind λq=>(rowAt H v g).bind λr=>if r.1=t/\len*sz<=r.2.length/\(len+q.2)*bytes<=140737488355328/\len+q.2<=9223372036854775807 then some (.fM v (g+1) sz 0 (len+q.2),.obj v (.row t (g+1) (r.2.take (len*sz)++q.1)))else none:=by
 simp only[sy]
 cases kR sz H y with
 | none=>rfl
 | some q=>cases rowAt H v g<;>simp
@[simp] theorem abA(t bytes:Nat)(vs:List Value)(y:D)(H:U)(a:Nat):sy t 1 bytes (.lS vs) y H a=(kR 1 H y).bind λq=>if q.2≠0/\(vs.length+q.2)*bytes<=140737488355328/\vs.length+q.2<=9223372036854775807 then some (.fM a 0 1 0 (vs.length+q.2),.new (.row t 0 (vs.map .val++q.1)))else none:=by simp only[sy];cases kR 1 H y<;>simp
@[simp] theorem aqy(t sz bytes:Nat)(y:D)(H:U)(a:Nat):sy t sz bytes .fX y H a=(kR sz H y).bind λq=>if q.2=0 then some (.fX,.no)else if q.2*bytes<=140737488355328/\q.2<=9223372036854775807 then some (.fM a 0 sz 0 q.2,.new (.row t 0 q.1))else none:=by simp only[sy];cases kR sz H y<;>rfl
@[simp] theorem avx(t sz bytes:Nat)(z:List D)(k a:IntKind)(n m:Int)(v:Nat):D7 t sz bytes z (.val (.int k n)) (.val (.int a m)) v=if 0<=n/\n<=m/\qj m 9223372036854775807/\qj ((bytes:Int)*m) 281474976710656 then some (.fM v 0 sz 0 n.toNat,.new (.row t 0 (List.replicate m.toNat z).flatten))else none:=rfl
@[simp] theorem auQ(n:Int)(k:Nat):qj n k=(n<=(k:Int)):=rfl
@[simp] theorem at3(f:gL):rE f []=some []:=rfl
def RS:D->Option Int
 | .val (.int .i64 n)=>some n
 | _=>none
@[simp] theorem atV(n:Int):RS (.i n)=some n:=rfl
@[simp] theorem at2(f:gL)(x:X)(r:List X):rE f (x::r)=(RS (ev f x)).bind λn=>(rE f r).bind λl=>some (n::l):=by
 show(match ev f x,rE f r with | .val (.int .i64 n),some l=>some (n::l)|_,_=>none)=_;unfold RS;split
 .rename_i h1 b;rw[h1,b];rfl
 .rename_i h;split
  .rename_i n a
   cases hl:rE f r with
   | none=>rfl
   | some l=>exact absurd hl (h _ _ a)
  .rfl
def Sw(d:Bool):List Int->Option D
 | [a,b]=>some (.i (if d then max a b else min a b))
 | [a,b,c]=>some (.i (if d then max (max a b) c else min (min a b) c))
 | _=>none
@[simp] theorem mm2(m:Bool)(a b:Int):Sw m [a,b]=some (.i (if m then max a b else min a b)):=rfl
@[simp] theorem avw(f:gL)(m:Bool)(xs:List X):D6 f m xs=(rE f xs).bind (Sw m):=by
 unfold D6
 cases rE f xs with
 | none=>rfl
 | some l=>simp only[Option.bind_some];unfold Sw;split<;>simp_all
@[simp] theorem arw(f:gL)(g:FuncId)(args:List X):kA f (.call g args)=some (g,args.map (ev f)):=rfl
def LU(args:List D):D->Option (FuncId×List D)
 | .fn (.func k) first cap=>some (k,first++args++cap)
 | _=>none
@[simp] theorem arv(args:List D)(k:FuncId)(first cap:List D):LU args (.fn (.func k) first cap)=some (k,first++args++cap):=rfl
@[simp] theorem abX(f:gL)(g:X)(args:List X):kA f (.callv g args)=LU (args.map (ev f)) (ev f g):=by show(match ev f g with | .fn (.func k) first cap=>some (k,first++args.map (ev f)++cap)|_=>none)=_;unfold LU;split<;>simp_all
def Sc(z:D)(ok:Bool):Option D->D
 | some d=>if ok then .tup [d,.b true]else d
 | none=>if ok then .tup [z,.b false]else z
@[simp] theorem avg(z:D)(ok:Bool)(d:D):Sc z ok (some d)=if ok then .tup [d,.b true]else d:=rfl
@[simp] theorem avf(z:D)(ok:Bool):Sc z ok none=if ok then .tup [z,.b false]else z:=rfl
@[simp] theorem avh(kk:KK)(z:D)(ok:Bool)(v:Nat)(k:D)(H:U):BJ kk z ok (.gx v) k H=(keyOf k).bind λkv=>(lD H v).bind λp=>if p.1=kk/\p.1.has kv=true then some (Sc z ok (qm p.2 kv))else none:=by
 unfold BJ
 cases keyOf k with
 | none=>rfl
 | some kv=>
  cases h:lD H v with
  | none=>simp[h]
  | some p=>
   simp only[h,Option.bind_some];split
   .cases qm p.2 kv<;>rfl
   .rfl
@[simp] theorem avt(kk:KK)(v:Nat)(k x:D)(H:U):zS kk (.gx v) k x H=(keyOf k).bind λkv=>(lD H v).bind λp=>if p.1=kk/\p.1.has kv=true then some (.any,.obj v (.map p.1 (mg p.2 kv x)))else none:=by
 unfold zS
 cases keyOf k with
 | none=>rfl
 | some kv=>cases h:lD H v<;>simp[h]
def mapOf:Option Ob->Option (KK×List (Value×D))
 | some (.map kk es)=>some (kk,es)
 | _=>none
@[simp] theorem avs(kk:KK)(es:List (Value×D)):mapOf (some (.map kk es))=some (kk,es):=rfl
@[simp] theorem Si(H:U)(v:Nat):lD H v=mapOf H[v]? := by unfold lD mapOf;split<;>simp_all
@[simp] theorem auw(k:IntKind)(n:Int):se (.int k n) = .val (.int k n):=rfl
@[simp] theorem auz(s:ByteArray):se (.string s) = .val (.string s):=rfl
@[simp] theorem auv(b:Bool):se (.bool b) = .b b:=rfl
@[simp] theorem auC(s:ByteArray):keyOf (.val (.string s))=some (.string s):=rfl
@[simp] theorem auA(b:Bool):keyOf (.b b)=some (.bool b):=rfl
@[simp] theorem auB(k:IntKind)(n:Int):keyOf (.val (.int k n))=some (.int k n):=rfl
@[simp] theorem auV(v:Nat)(H:U):mK .map (.gx v) H=(lD H v).bind λp=>some (.i p.2.length):=by simp only[mK];cases lD H v<;>rfl
@[simp] theorem asQ(ls:List mq)(neg:Bool)(x y:D):AN false ls neg x y=(mr ls [x] [y]).bind λr=>some (.b (if neg then !r else r)):=by simp only[AN];cases mr ls [x] [y]<;>rfl
@[simp] theorem asP(ls:List mq)(neg:Bool)(x y:List D):AN true ls neg (.agg x) (.agg y)=(mr ls x y).bind λr=>some (.b (if neg then !r else r)):=by simp only[AN];cases mr ls x y<;>rfl
@[simp] theorem arB:mr [] [] []=some true:=rfl
@[simp] theorem arA(l:mq)(ls:List mq)(x y:D)(xs c:List D):mr (l::ls) (x::xs) (y::c)=(uc l x y).bind λa=>(mr ls xs c).bind λb=>some (a&&b):=by show(match uc l x y,mr ls xs c with|some a,some b=>some (a&&b)|_,_=>none)=_;cases uc l x y<;>cases mr ls xs c<;>rfl
@[simp] theorem ary(a b:Int):uc .int (.i a) (.i b)=some (decide (a=b)):=by simp[uc,BEq.beq]
@[simp] theorem arx(a b:Bool):uc .bool (.b a) (.b b)=some (a == b):=rfl
@[simp] theorem arz(a b:ByteArray):uc .str (.val (.string a)) (.val (.string b))=some (a.data.toList == b.data.toList):=rfl
attribute [simp] gH kill uJ Ej gK jO uU vM ua tZ ml NR lay Al.last qm mg nI KK.has gw
@[simp] theorem azh(v g sz off n:Nat):nv (.fM v g sz off n) = [(v,none)]:=rfl
@[simp] theorem azg(v:Nat):nv (.gx v) = [(v,none)]:=rfl
@[simp] theorem azj(sz:Nat)(es:List (List D)):nv (.sl sz es) = []:=rfl
@[simp] theorem aze:nv .fX = []:=rfl
@[simp] theorem azk(v:Value):nv (.val v) = []:=rfl
@[simp] theorem azb(cs:List D):nv (.agg cs) = []:=rfl
@[simp] theorem azf(cs:List D):nv (.gi cs) = []:=rfl
@[simp] theorem azi(v g o:Nat):nv (.ptr v g o) = []:=rfl
@[simp] theorem azd(l:List Int):nv (dI l) = []:=by unfold dI;rfl
def XB(d:D)(P Q:Prop)(_:Tag (PProd.mk P Q)):Prop:=∃x,d = .b x/\(x=true->P)/\(x=false->Q)
def X2(x:Bool)(P Q:Prop)(_:Tag (PProd.mk P Q)):Prop:=(x=true->P)/\(x=false->Q)
@[simp] theorem aor(P Q:Prop):X2 true P Q .mk=P:=by simp[X2]
@[simp] theorem aon(P Q:Prop):X2 false P Q .mk=Q:=by simp[X2]
@[simp] theorem aoo(x:Bool)(P Q:Prop):X2 (!x) P Q .mk=X2 x Q P .mk:=by cases x<;>simp[X2]
@[simp] theorem aoq(x y:Bool)(P Q:Prop):X2 (!x || !y) P Q .mk=X2 (x&&y) Q P .mk:=by cases x<;>cases y<;>simp[X2]
theorem X2.d{p:Prop}[Decidable p]{P Q:Prop}(h:p->P)(k:¬p->Q):X2 (decide p) P Q .mk:=⟨λe=>h (of_decide_eq_true e),λe=>k (of_decide_eq_false e)⟩
theorem X2.a{p q:Prop}[Decidable p][Decidable q]{P Q:Prop}(h:p->q->P)(k:¬(p/\q)->Q):X2 (decide p&&decide q) P Q .mk:=by rw[<-dF];exact X2.d (λe=>h e.1 e.2) k
theorem X2.o{p q:Prop}[Decidable p][Decidable q]{P Q:Prop}(h:p\/q->P)(k:¬(p\/q)->Q):X2 (decide p||decide q) P Q .mk:=by rw[<-fD];exact X2.d h k
theorem X2.z{p:Prop}[Decidable p]{P Q:Prop}(h:¬p)(k:Q):X2 (decide p) P Q .mk:=X2.d (λn=>absurd n h) (λ_=>k)
@[simp] theorem aot(x:Bool)(a b:D)(P Q:Prop):XB (bif x then a else b) P Q .mk=X2 x (XB a P Q .mk) (XB b P Q .mk) .mk:=by cases x<;>simp
theorem X2.b{x:Bool}{P Q:Prop}(h:x=true->P)(k:x=false->Q):X2 x P Q .mk:=⟨h,k⟩
theorem Xg{p q:Prop}(b:q)(a:p:=by first|omega|assumption):p/\q:=⟨a,b⟩
@[simp] theorem aos(x:Bool)(P Q:Prop):XB (.b x) P Q .mk=X2 x P Q .mk:=by cases x<;>simp[XB,X2]
@[simp high] theorem aov(P Q:Prop):XB (.b true) P Q .mk=P:=by simp[XB]
@[simp high] theorem aou(P Q:Prop):XB (.b false) P Q .mk=Q:=by simp[XB]
def XG(g:Option Bool)(P Q:Prop)(_:Tag (PProd.mk P Q)):Prop:=∃x,g=some x/\(x=true->P)/\(x=false->Q)
@[simp] theorem aoL(x:Bool)(P Q:Prop):XG (some x) P Q .mk=X2 x P Q .mk:=by cases x<;>simp[XG,X2]
@[simp high] theorem aoO(P Q:Prop):XG (some true) P Q .mk=P:=by simp[XG]
@[simp high] theorem aoN(P Q:Prop):XG (some false) P Q .mk=Q:=by simp[XG]
@[simp] theorem aoM(x w:Bool)(a b:D)(P Q:Prop):XG (gB (bif x then a else b) w) P Q .mk=X2 x (XG (gB a w) P Q .mk) (XG (gB b w) P Q .mk) .mk:=by cases x<;>simp
def kp(s:St)(dst:Option Nat)(K:St->Prop):D×Dl->Prop:=λp=>K { s with env:=put s.env dst p.1,H:=p.2.app s.H (Al.last s.H) }
def kt(s:St)(dst:Option Nat)(R:List Fp)(Q:Rc->St->Prop):D×Dl->Prop:=λp=>Q ⟨R,jO s.H.length p.2⟩ { s with env:=put s.env dst p.1,H:=p.2.app s.H (Al.last s.H) }
section
variable(T:il)
def gj(f:FuncId)(args:List D)(dst:Option Nat)(s:St)(K:St->Prop)(_:Tag (dst,s,K)):Prop:=
 (∃fn,T.fn f=some fn/\fn.full=false/\Wf T f (args.map (gd (λ_=>none) s.H 40)) [] λd Hn=>oA (after s dst args d Hn) K .mk) \/
 (∃fn,T.fn f=some fn/\fn.full=true/\Wf T f args s.H λd H'=>K { s with env:=put s.env dst d,H:=H' })
def iW(f:FuncId)(args:List D)(R:List Fp)(dst:Option Nat)(s:St)(Q:Rc->St->Prop)(_:Tag (dst,s,Q)):Prop:=
 ∃fn d,T.fn f=some fn/\fn.full=false/\Wf T f (args.map (gd (λ_=>none) s.H 40)) [] (λd' Hn=>d'=d/\Hn = [])/\(if gw args then closed d else flat d)=true/\Q ⟨R,[]⟩ { s with env:=put s.env dst d }
def wm(f:FuncId)(args:List D)(R:List Fp)(dst:Option Nat)(s:St)(Q:Rc->St->Prop)(t:Tag (dst,s,Q)):Prop:=
 iW T f args R dst s Q t\/∃fn d ob,T.fn f=some fn/\fn.full=false/\Wf T f (args.map (gd (λ_=>none) s.H 40)) [] (λd' Hn=>d'=d/\Hn = [ob]) /\
  (if gw args then mL d&&nY ob else oH d&&pn ob)=true/\Q ⟨R,[(s.H.length,none)]⟩ { s with env:=put s.env dst (ku s.H.length d),H:=s.H ++ [ob] }
def tY(f:FuncId)(args:List D)(R:List Fp)(dst:Option Nat)(s:St)(Q:Rc->St->Prop)(t:Tag (dst,s,Q)):Prop:=
 wm T f args R dst s Q t\/∃fn d v,T.fn f=some fn/\fn.full=false/\(∀u∈(args.map (iv s.H 40)).flatten,u=v)/\v∈(args.map (iv s.H 40)).flatten/\(rowsOf s.H v).isSome=true /\
  gw (args.map (gd (λ_=>none) s.H 40))=true/\Wf T f (args.map (gd (λ_=>none) s.H 40)) [] (λd' Hn=>d'=d/\Hn = [])/\closed d=true/\Q ⟨R,[(v,none)]⟩ { s with env:=put s.env dst d,H:=s.H.set v .dead }
def BZ(v rf:Nat)(dst:Option Nat)(s:St)(K:St->Prop):iQ:=λo=>∃a,o.st.H[v]? = some (.ia rf a .busy)/\K { s with env:=put s.env dst (.b !o.stop),H:=o.st.H.set v (.ia rf a o.Ad) }
def qc(v:Nat)(args:List D)(dst:Option Nat)(s:St)(K:St->Prop)(_:Tag (dst,s,K)):Prop:=
 ∃rf env0 Rd,s.H[v]? = some (.ia rf env0 .ready)/\T.round rf=some Rd/\args.length=Rd.params.length /\
  Wc T Rd.a { env:=tR Rd.params args env0,H:=s.H,iq:=true } λo=>∃s1 a,o = .norm s1/\s1.H[v]? = some (.ia rf a .ready)/\Wc T Rd.b { s1 with H:=s1.H.set v (.ia rf a .busy) } (BZ v rf dst s K)
def wj(d:D)(args:List D)(dst:Option Nat)(s:St)(K:St->Prop)(t:Tag (dst,s,K)):Prop:=
 match d with
 | .iP v=>qc T v args dst s K t
 | d=>oA (LU args d) (λp=>gj T p.1 p.2 dst s K t) .mk
def tX(x:D)(dst:Option Nat)(s:St)(K:St->Prop)(_:Tag (dst,s,K)):Prop:=
 ∃v m since seen kk es,x = .ptr v 0 0/\s.H[v]? = some (.iX (.gx m) since seen)/\s.H[m]? = some (.map kk es)/\es.length=since /\
  ((∀i,i<es.length->i∈seen)->K { s with env:=put s.env dst (.tup [.b false]) }) /\
  (∀i k d,es[i]? = some (k,d)->i ∉ seen->K { s with env:=put s.env dst (.tup [.b true,se k,d]),H:=s.H.set v (.iX (.gx m) since (seen ++ [i])) })
def iL(op:iD)(dst:Option Nat)(s:St)(K:St->Prop):Prop:=
 match op with
 | .call f args=>gj T f (args.map (ev s.env.get)) dst s K .mk
 | .callN f args=>gj T f (args.map (ev s.env.get)) dst s K .mk
 | .callv f args=>wj T (ev s.env.get f) (args.map (ev s.env.get)) dst s K .mk
 | .nilS a b=>oA (ml s.env.get s.H s.H.length (.nilS a b)) (kp s dst K) .mk
 | .capE a=>oA (ml s.env.get s.H s.H.length (.capE a)) (kp s dst K) .mk
 | .appZ a b c d e f=>oA (ml s.env.get s.H s.H.length (.appZ a b c d e f)) (kp s dst K) .mk
 | .clr a b c=>oA (ml s.env.get s.H s.H.length (.clr a b c)) (kp s dst K) .mk
 | .rangeS a=>oA (ml s.env.get s.H s.H.length (.rangeS a)) (kp s dst K) .mk
 | .nextS a=>oA (ml s.env.get s.H s.H.length (.nextS a)) (kp s dst K) .mk
 | .rangeM a=>oA (ml s.env.get s.H s.H.length (.rangeM a)) (kp s dst K) .mk
 | .entry a=>oA (ml s.env.get s.H s.H.length (.entry a)) (kp s dst K) .mk
 | .mapEnt a b c d=>oA (ml s.env.get s.H s.H.length (.mapEnt a b c d)) (kp s dst K) .mk
 | .entSt a b c=>oA (ml s.env.get s.H s.H.length (.entSt a b c)) (kp s dst K) .mk
 | .nextM a=>tX (ev s.env.get a) dst s K .mk
 | op=>oA (gH s.env.get s.H s.H.length op) (kp s dst K) .mk
def jL(op:iD)(dst:Option Nat)(s:St)(Q:Rc->St->Prop):Prop:=
 match op with
 | .call f args=>iW T f (args.map (ev s.env.get)) (gK s.env.get s.H (.call f args)) dst s Q .mk
 | .callN f args=>tY T f (args.map (ev s.env.get)) (gK s.env.get s.H (.callN f args)) dst s Q .mk
 | .callv f args=>oA (kA s.env.get (.callv f args)) (λp=>iW T p.1 p.2 (gK s.env.get s.H (.callv f args)) dst s Q .mk) .mk
 | op=>oA (gH s.env.get s.H s.H.length op) (kt s dst (gK s.env.get s.H op) Q) .mk
def XO:List gR->St->(St->Prop)->Prop
 | [],s,K=>K s
 | e::r,s,K=>XG (guardOf s.env.get e.guard) (iL T e.op e.dst s λa=>XO r a K) (XO r { s with env:=put s.env e.dst (.val undef) } K) .mk
def XT:List gR->St->(List Rc->St->Prop)->Prop
 | [],s,K=>K [] s
 | e::r,s,K=>XG (guardOf s.env.get e.guard) (jL T e.op e.dst s λrc b=>XT r b λrs a=>K (rc::rs) a) (XT r { s with env:=put s.env e.dst (.val undef) } λrs a=>K (⟨[],[]⟩::rs) a) .mk
end
section
variable{T:il}
theorem SB{α:Type}{x:Option α}{P Q:α->Prop}{t:Tag P}{u:Tag Q}(h:oA x P t)(hi:∀a,P a->Q a):oA x Q u:=by obtain⟨a,h1,b⟩:=h;exact⟨a,h1,hi a b⟩
theorem gj.mono{f:FuncId}{args:List D}{dst:Option Nat}{s:St}{K c:St->Prop}{t:Tag (dst,s,K)}{u:Tag (dst,s,c)}(h:gj T f args dst s K t)(hi:∀s,K s->c s):gj T f args dst s c u:=by
 rcases h with⟨fn,b,a,h⟩|⟨fn,b,a,h⟩
 .exact .inl ⟨fn,b,a,Wf.mono h λd Hn h=>SB h hi⟩
 .exact .inr ⟨fn,b,a,Wf.mono h λd H h=>hi _ h⟩
theorem qc.mono{v:Nat}{args:List D}{dst:Option Nat}{s:St}{K a:St->Prop}{t:Tag (dst,s,K)}{u:Tag (dst,s,a)}(h:qc T v args dst s K t)(hi:∀s,K s->a s):qc T v args dst s a u:=by obtain⟨rf,env0,Rd,d,f,hl,h⟩:=h;exact⟨rf,env0,Rd,d,f,hl,h.mono λo ⟨s1,c,e,h1,j⟩=>⟨s1,c,e,h1,j.mono λo ⟨b,i,g⟩=>⟨b,i,hi _ g⟩⟩⟩
theorem wj.mono{d:D}{args:List D}{dst:Option Nat}{s:St}{K a:St->Prop}{t:Tag (dst,s,K)}{u:Tag (dst,s,a)}(h:wj T d args dst s K t)(hi:∀s,K s->a s):wj T d args dst s a u:=by
 unfold wj at h ⊢;split at h
 .exact qc.mono h hi
 .exact SB h λp b=>gj.mono b hi
theorem tX.mono{x:D}{dst:Option Nat}{s:St}{K a:St->Prop}{t:Tag (dst,s,K)}{u:Tag (dst,s,a)}(h:tX x dst s K t)(hi:∀s,K s->a s):tX x dst s a u:=by obtain⟨v,m,since,seen,kk,es,h1,g,f,e,c,b⟩:=h;exact⟨v,m,since,seen,kk,es,h1,g,f,e,λh=>hi _ (c h),λi k d l j=>hi _ (b i k d l j)⟩
theorem iL.mono{op:iD}{dst:Option Nat}{s:St}{K a:St->Prop}(h:iL T op dst s K)(hi:∀s,K s->a s):iL T op dst s a:=by
 unfold iL at h ⊢
 split at h<;>first
  | exact gj.mono h hi
  | exact wj.mono h hi
  | exact tX.mono h hi
  | exact SB h λp b=>hi _ b
theorem XO.mono:∀ {l:List gR} {s:St} {K a:St->Prop},XO T l s K->(∀s,K s->a s)->XO T l s a
 | [],s,K,a,h,hi=>hi s h
 | e::r,s,K,a,h,hi=>by obtain⟨x,hg,b,c⟩:=h;exact⟨x,hg,λe=>iL.mono (b e) λd h=>XO.mono h hi,λe=>XO.mono (c e) hi⟩
theorem gj.wo{f:FuncId}{args:List D}{s:St}{K:St->Prop}{e:gR}{r:List gR}(hg:guardOf s.env.get e.guard=some true)(k:kA s.env.get e.op=some (f,args))(h:gj T f args e.dst s (λg=>Wo T r g K) .mk):Wo T (e::r) s K:=by
 rcases h with⟨fn,j,i,h⟩|⟨fn,j,i,h⟩
 .refine Ev.Fz hg k j i h (λd Hn b=>?_) λd Hn g b l=>?_
  .obtain⟨d',H',a,g,hs,c⟩:=b;cases a;rw[hs];rfl
  .obtain⟨d',H',a,m,hs,c⟩:=b;cases a;rw[hs]at l;cases l;exact c
 .exact Ev.Fy hg k j i h λd H' b=>by obtain⟨d',H2,a,c⟩:=b;cases a;exact c
theorem XO.xe{l2:List gR}{K:St->Prop}:∀ {l:List gR} {s:St},XO T l s (λb=>Wo T l2 b K)->Wo T (l++l2) s K
 | [],s,h=>h
 | e::r,s,h=>by
  obtain⟨x,hg,F,t⟩:=h
  cases x with
  | false=>exact Wo.off hg (XO.xe (t rfl))
  | true=>
   have h:=F rfl;have plain:oA (gH s.env.get s.H s.H.length e.op) (kp s e.dst λb=>XO T r b λb=>Wo T l2 b K) .mk->Wo T (e::r++l2) s K:=λ⟨⟨d,δ⟩,z,y⟩=>Wo.op hg z (XO.xe y);have sp:oA (ml s.env.get s.H s.H.length e.op) (kp s e.dst λb=>XO T r b λb=>Wo T l2 b K) .mk->Wo T (e::r++l2) s K:=λ⟨⟨d,δ⟩,z,y⟩=>Wo.Cc hg z (XO.xe y)
   have call:∀f args,kA s.env.get e.op=some (f,args)->gj T f args e.dst s (λb=>XO T r b λb=>Wo T l2 b K) .mk->Wo T (e::r++l2) s K:=λf args G D=>by
    refine gj.wo hg G ?_;rcases D with⟨fn,t,q,h⟩|⟨fn,t,q,h⟩
    .exact .inl ⟨fn,t,q,Wf.mono h λd Hn ⟨b,h1,g⟩=>⟨b,h1,XO.xe g⟩⟩
    .exact .inr ⟨fn,t,q,Wf.mono h λd Hn h1=>XO.xe h1⟩
   unfold iL at h;split at h
   case h_1 f args c=>exact call _ _ (by rw[c];rfl) h
   case h_2 f args c=>exact call _ _ (by rw[c];rfl) h
   case h_3 f args c=>
    unfold wj at h;split at h
    .rename_i v E;obtain⟨rf,env0,Rd,B,H,hl,h⟩:=h;have C:yieldOf s.env.get e.op=some (v,args.map (ev s.env.get)):=by rw[c];simp only[yieldOf,E]
     refine Ev.LR hg C B H hl h (λo ⟨o',j,s1,A,u,h1,g⟩=>?_) (Rb:=PO (BZ v rf e.dst s λb=>XO T r b λb=>Wo T l2 b K)) (λs1 A ⟨o',j,N,w,u,h1,g⟩ n=>?_) (λo ⟨o',j,w,h1,g⟩=>?_) λo w ⟨o',j,M,h1,g⟩ n=>?_
     .cases j;subst u;exact⟨rfl,A,h1⟩
     .cases j;cases u;rw[h1]at n;cases n;exact g
     .cases j;exact⟨w,h1⟩
     .cases j;rw[h1]at n;cases n;exact XO.xe g
    .rename_i O;obtain⟨p,q,h⟩:=h;exact call p.1 p.2 (by rw[c,abX];exact q) h
   case h_14 a c=>
    obtain⟨v,m,since,seen,kk,es,h1,g,n,L,J,I⟩:=h;exact Ev.next hg c h1 g n L (λk=>XO.xe (J k)) λi k d j u=>XO.xe (I i k d j u)
   case h_15=>exact plain h
   all_goals (rename_i c;exact sp (by rw[c];exact h))
theorem XO.wo{l:List gR}{s:St}{K:St->Prop}(h:XO T l s K):Wo T l s K:=by have:=XO.xe (l2:=[]) (K:=K) (XO.mono h λa k=>Wo.nil k);rwa [az]at this
theorem XT.wt:∀ {l:List gR} {s:St} {K:List Rc->St->Prop},XT T l s K->Wt T l s K
 | [],s,K,h=>Wt.nil h
 | e::r,s,K,h=>by
  obtain⟨x,hg,w,g⟩:=h
  cases x with
  | false=>exact Wt.off hg (XT.wt (g rfl))
  | true=>
   have h:=w rfl
   have call:∀f args,kA s.env.get e.op=some (f,args)->iW T f args (gK s.env.get s.H e.op) e.dst s (λrc q=>XT T r q λrs o=>K (rc::rs) o) .mk->Wt T (e::r) s K:=λf args z ⟨fn,d,g,b,m,n,c⟩=>
    Ev.Iv hg z g b m (λd' Hn ⟨d2,H2,a,i⟩=>by cases a;exact i) n (XT.wt c) λrs q ⟨j,o,a,k⟩=>by cases a;exact⟨_,_,rfl,k⟩
   unfold jL at h;split at h
   case h_1 f args a=>exact call _ _ (by rw[a];rfl) (by rw[a];exact h)
   case h_2 f args a=>
    rcases h with(h|⟨fn,d,ob,g,b,m,n,c⟩)|⟨fn,d,v,g,b,hS,u,A,n,m,y,c⟩
    .exact call _ _ (by rw[a];rfl) (by rw[a];exact h)
    .exact Ev.Iw hg a rfl g b m (λd' Hn ⟨d2,H2,a,i⟩=>by cases a;exact i) n (XT.wt c) λrs q ⟨j,o,t,k⟩=>by cases t;rw[a];exact⟨_,_,rfl,k⟩
    .exact Ev.Ix hg a rfl g b hS u A n m (λd' Hn ⟨d2,H2,a,i⟩=>by cases a;exact i) y (XT.wt c) λrs q ⟨j,o,t,k⟩=>by cases t;rw[a];exact⟨_,_,rfl,k⟩
   case h_3 f args a=>obtain⟨p,b,h⟩:=h;exact call p.1 p.2 (by rw[a];exact b) (by rw[a];exact h)
   case h_4=>obtain⟨⟨d,δ⟩,i,c⟩:=h;exact Wt.op hg i (XT.wt c)
end
def lr:IR->IR
 | .seq a b=>.seq (lr a) (lr b)
 | .cond c a b=>.cond c (lr a) (lr b)
 | .block id live a=>.block id live (lr a)
 | .loop live a=>.loop live (lr a)
 | .fz _ a=>lr a
 | .u5 _ a b=>.ops (a++b)
 | c=>c
def tL:IR->Bool
 | .seq a b=>tL a&&tL b
 | .cond _ a b=>tL a&&tL b
 | .block _ _ a=>tL a
 | .loop _ a=>tL a
 | .fz _ _=>false
 | .u5 _ _ _=>false
 | _=>true
theorem om:∀ {c:IR},tL c=true->lr c=c
 | .seq a b,h=>by simp only[tL,Bool.and_eq_true]at h;rw[lr,om h.1,om h.2]
 | .cond _ a b,h=>by simp only[tL,Bool.and_eq_true]at h;rw[lr,om h.1,om h.2]
 | .block _ _ a,h=>by rw[lr,om (c:=a) h]
 | .loop _ a,h=>by rw[lr,om (c:=a) h]
 | .fz _ _,h=>by cases h
 | .u5 _ _ _,h=>by cases h
 | .skip,_ | .ops _,_ | .lU _ _,_ | .mF _ _ _,_ | .nW _ _ _,_ | .exit _,_ | .ret,_ | .bad,_=>rfl
def lK(k:Nat):List gR->Bool
 | { dst:=some j,.. }::_=>decide (j=k)
 | _=>false
def iO(k:Nat)(S:List Nat):IR->IR
 | .ops l=>bif lK k l then .fz S (.ops l)else .ops l
 | .lU p l=>bif lK k l then .fz S (.lU p l)else .lU p l
 | .mF p l e=>bif lK k l then .fz S (.mF p l e)else .mF p l e
 | .seq a b=>.seq (iO k S a) (iO k S b)
 | .cond c a b=>.cond c (iO k S a) (iO k S b)
 | .block id live a=>.block id live (iO k S a)
 | .loop live a=>.loop live (iO k S a)
 | .fz d a=>.fz d (iO k S a)
 | c=>c
theorem Aj(k:Nat)(S:List Nat):∀c:IR,lr (iO k S c)=lr c
 | .ops l=>by unfold iO;cases lK k l<;>rfl
 | .lU p l=>by unfold iO;cases lK k l<;>rfl
 | .mF p l e=>by unfold iO;cases lK k l<;>rfl
 | .seq a b=>by simp only[iO,lr,Aj k S a,Aj k S b]
 | .cond c a b=>by simp only[iO,lr,Aj k S a,Aj k S b]
 | .block id live a=>by simp only[iO,lr,Aj k S a]
 | .loop live a=>by simp only[iO,lr,Aj k S a]
 | .fz d a=>by simp only[iO,lr,Aj k S a]
 | .skip | .nW _ _ _ | .exit _ | .ret | .bad | .u5 _ _ _=>rfl
def mN(k:Nat):List gR->List gR
 | []=>[]
 | e::r=>bif lK k [e]then []else e::mN k r
def mQ(k:Nat):List gR->List gR
 | []=>[]
 | e::r=>bif lK k [e]then e::r else mQ k r
def nf(k:Nat):List gR->Bool
 | []=>false
 | e::r=>lK k [e]||nf k r
theorem UF(k:Nat):∀l:List gR,mN k l++mQ k l=l
 | []=>rfl
 | e::r=>by unfold mN mQ;cases lK k [e]<;>simp[UF k r]
def kh(k:Nat)(S:List Nat):IR->IR
 | .ops l=>bif nf k l then .u5 S (mN k l) (mQ k l)else .ops l
 | .seq a b=>.seq (kh k S a) (kh k S b)
 | .cond c a b=>.cond c (kh k S a) (kh k S b)
 | .block id live a=>.block id live (kh k S a)
 | .loop live a=>.loop live (kh k S a)
 | .fz d a=>.fz d (kh k S a)
 | c=>c
theorem Ak(k:Nat)(S:List Nat):∀c:IR,lr (kh k S c)=lr c
 | .ops l=>by unfold kh;cases nf k l<;>simp[lr,UF]
 | .seq a b=>by simp only[kh,lr,Ak k S a,Ak k S b]
 | .cond c a b=>by simp only[kh,lr,Ak k S a,Ak k S b]
 | .block id live a=>by simp only[kh,lr,Ak k S a]
 | .loop live a=>by simp only[kh,lr,Ak k S a]
 | .fz d a=>by simp only[kh,lr,Ak k S a]
 | .skip | .nW _ _ _ | .exit _ | .ret | .bad | .u5 _ _ _ | .lU _ _ | .mF _ _ _=>rfl
def fZ(T:il)(live:List Nat)(a:IR)(s:St)(K:iQ)(_:Tag (live,a,s,K)):Prop:=Wc T (.loop live (lr a)) s K
def sZ(T:il)(rf:Nat)(live:List Nat)(x:X)(s:St)(K:iQ)(_:Tag (live,x,s,K)):Prop:=Wc T (.nW rf live x) s K
@[irreducible] def wY(m S:List Nat):Bool:=m.all λv => !S.contains v
theorem Hv(m S:List Nat):wY m S=m.all λv => !S.contains v:=by unfold wY;rfl
@[simp] theorem agX(S:List Nat):wY [] S=true:=by rw[Hv];rfl
@[simp] theorem avr(v:Nat)(m S:List Nat):wY (v::m) S=(!decide (v∈S)&&wY m S):=by rw[Hv,Hv,List.all_cons,cZ]
def O5:D->List Nat
 | .agg cs=>(cs.map (ji 0)).flatten
 | _=>[]
@[simp] theorem aqt(cs:List D):O5 (.agg cs)=(cs.map (ji 0)).flatten:=rfl
def pN(env:Env):List Nat->List Nat
 | []=>[]
 | v::r=>if v<1000 then v::pN env r else if v<2000 then ji 0 (env.get (v-1000))++pN env r else O5 (env.get (v-2000))++pN env r
@[simp] theorem ato(env:Env):pN env [] = []:=rfl
@[simp] theorem atn(env:Env)(v:Nat)(r:List Nat):pN env (v::r)=if v<1000 then v::pN env r else if v<2000 then ji 0 (env.get (v-1000))++pN env r else O5 (env.get (v-2000))++pN env r:=rfl
def XC(T:il):IR->St->iQ->Prop
 | .skip,s,K=>K (.norm s)
 | .ops l,s,K=>XO T l s λd=>K (.norm d)
 | .lU jz l,s,K=>XT T l s λrs d=>vM jz rs=true/\K (.norm d)
 | .mF jz l es,s,K=>XT T l s λrs d=>vM jz rs=true/\XO T es d λd=>K (.norm d)
 | .seq a b,s,K=>XC T a s λo=>match o with
  | .norm d=>XC T b d K
  | o=>K o
 | .cond c a b,s,K=>XB (ev s.env.get c) (XC T a s K) (XC T b s K) .mk
 | .block id live a,s,K=>XC T a s λo=>K (lG id s.H.length live o)
 | .loop live a,s,K=>fZ T live a s K .mk
 | .nW rf live x,s,K=>sZ T rf live x s K .mk
 | .exit id,s,K=>K (.exit id s)
 | .ret,s,K=>K (.ret s)
 | .bad,_,_=>False
 | .fz S a,s,K=>wY s.marks (pN s.env S)=true/\XC T a (lW (pN s.env S) s) K
 | .u5 S a b,s,K=>XO T a s λd=>wY d.marks (pN d.env S)=true/\XO T b (lW (pN d.env S) d) λd=>K (.norm d)
def NW(T:il)(b:IR)(K:iQ):iQ:=λo=>match o with
 | .norm a=>XC T b a K
 | o=>K o
def xt(id n:Nat)(live:List Nat)(K:iQ):iQ:=λo=>K (lG id n live o)
section
variable{T:il}
theorem Wc.lW{c:IR}{s:St}{K:iQ}(S:List Nat)(a:wY s.marks S=true)(h:Wc T c (lW S s) K):Wc T c s K:=Ev.F4 S (by rwa [Hv]at a) h
theorem XC.wc:∀ {c:IR} {s:St} {K:iQ},XC T c s K->Wc T (lr c) s K
 | .skip,s,K,h=>Wc.skip h
 | .ops l,s,K,h=>Wc.ops (XO.wo h)
 | .lU jz l,s,K,h=>Wc.lU (XT.wt h)
 | .mF jz l es,s,K,h=>Wc.mF (Ev.mono (XT.wt h) λ_ ⟨rs,d,q,k⟩=>⟨rs,d,q,k.1,XO.wo k.2⟩)
 | .seq a b,s,K,h=>Wc.seq ((XC.wc (c:=a) h).mono λo f=>by
  cases o with
  | norm d=>exact XC.wc (c:=b) f
  | exit=>exact f
  | ret=>exact f)
 | .cond _ _ _,_,_,h=>by obtain⟨x,g,i,j⟩:=h;exact Wc.cond x g (λe=>XC.wc (i e)) λe=>XC.wc (j e)
 | .block _ _ _,_,_,h=>Wc.block (XC.wc h)
 | .loop live a,s,K,h=>h
 | .nW rf live x,s,K,h=>h
 | .exit id,s,K,h=>Wc.exit h
 | .ret,s,K,h=>Wc.ret h
 | .bad,s,K,h=>h.elim
 | .fz S a,s,K,h=>Wc.lW (pN s.env S) h.1 (XC.wc (c:=a) h.2)
 | .u5 S a b,s,K,h=>Wc.ops (XO.xe (XO.mono h λd k=>Ev.lW (pN d.env S) (by have:=k.1;rwa [Hv]at this) (XO.wo k.2)))
def uI(ds:List D):D:=match ds with
 | [d]=>d
 | ds=>.tup ds
@[simp] theorem axo(d:D):uI [d]=d:=rfl
@[simp] theorem axp(d e:D):uI [d,e] = .tup [d,e]:=rfl
@[simp] theorem axq(d e f:D):uI [d,e,f] = .tup [d,e,f]:=rfl
@[simp] theorem axn:uI [] = .tup []:=rfl
def y9(rs:List uR)(own n:Nat)(K:D->U->Prop):iQ:=λo=>match o with
 | .norm s | .ret s=>oA (kill s.marks s.H) (λH=>oA (uJ { s with H:=H } rs) (λds=>K (leave own n H (uI ds)).1 (leave own n H (uI ds)).2) .mk) .mk
 | .exit _ _=>False
theorem Wf.xz(own:Nat){f:FuncId}{args:List D}{H:U}{fn:je}{K:D->U->Prop}(c:IR)(g:T.fn f=some fn)(hl:args.length<=fn.ntmps)(i:lr c=fn.body)
  (h:XC T c { env:=tJ args,H:=H } (y9 fn.results own H.length K)):Wf T f args H K:=by
 have key:∀s:St,(oA (kill s.marks s.H) (λH'=>oA (uJ { s with H:=H' } fn.results) (λds=>K (leave own H.length H' (uI ds)).1 (leave own H.length H' (uI ds)).2) .mk) .mk)->∃d H',(match kill s.marks s.H with
  | some H1=>match results fn { s with H:=H1 }with
   | some d=>some (leave own H.length H1 d)
   | none=>none
  | none=>none)=some (d,H')/\K d H':=by
  rintro s ⟨H1,h1,ds,j,e⟩;rw[h1];refine⟨_,_,?_,e⟩;unfold AL.results;dsimp only;rw[j]
  cases ds with
  | nil=>rfl
  | cons a l=>cases l<;>rfl
 refine Wf.call own g hl (i▸(XC.wc h).mono λo b=>?_)
 cases o with
 | norm s=>exact key s b
 | ret s=>exact key s b
 | exit=>exact b.elim
theorem Wf.xo(own:Nat){f:FuncId}{args:List D}{H:U}{fn:je}{K:D->U->Prop}(b:T.fn f=some fn)(hl:args.length<=fn.ntmps)
  (h:XC T fn.body { env:=tJ args,H:=H } (y9 fn.results own H.length K)) (a:tL fn.body=true:=by rfl):Wf T f args H K:=Wf.xz own fn.body b hl (om a) h
theorem Wf.x{f:FuncId}{args:List D}{H:U}{fn:je}{K:D->U->Prop}(b:T.fn f=some fn)(hl:args.length<=fn.ntmps)
  (h:XC T fn.body { env:=tJ args,H:=H } (y9 fn.results fn.own H.length K)) (a:tL fn.body=true:=by rfl):Wf T f args H K:=Wf.xo fn.own b hl h a
theorem gj.is{f:FuncId}{args:List D}{dst:Option Nat}{s:St}{K:St->Prop}{fn:je}{K0:D->U->Prop}(b:T.fn f=some fn)(a:fn.full=false)(h:Wf T f (args.map (gd (λ_=>none) s.H 40)) [] K0)
  (k:∀d Hn,K0 d Hn->oA (after s dst args d Hn) K .mk):gj T f args dst s K .mk:=.inl ⟨fn,b,a,Wf.mono h k⟩
theorem gj.kU{f:FuncId}{args:List D}{dst:Option Nat}{s:St}{K:St->Prop}{fn:je}{K0:D->U->Prop}(b:T.fn f=some fn)(a:fn.full=true)(h:Wf T f args s.H K0)
  (k:∀d H',K0 d H'->K { s with env:=put s.env dst d,H:=H' }):gj T f args dst s K .mk:=.inr ⟨fn,b,a,Wf.mono h k⟩
theorem gj.c{f:FuncId}{args:List D}{dst:Option Nat}{s:St}{K:St->Prop}{fn:je}{x:D}(e:T.fn f=some fn)(c:fn.full=false)(h:Wf T f args [] λd H'=>d=x/\H' = [])
  (a:gw args=true) (b:closed x=true) (k:K { s with env:=put s.env dst x }):gj T f args dst s K .mk:=by
 refine gj.is e c (K0:=λd H'=>d=x/\H' = []) ?_ ?_
 .have i:args.map (gd (λ_=>none) s.H 40)=args:=by
   conv=>rhs;rw[<-aY args]
   exact au λd g=>p5 (lH a d g)
  rw[i];exact h
 .rintro d Hn ⟨rfl,rfl⟩;obtain⟨k1,k2⟩:=FD (H:=s.H) b;refine⟨{ s with env:=put s.env dst d },?_,k⟩;unfold after;rw[if_pos a,k1,k2];simp
theorem gj.r{f:FuncId}{args oq:List D}{dst:Option Nat}{s:St}{K:St->Prop}{fn:je}{x:D}(e:T.fn f=some fn)(c:fn.full=false)(h:Wf T f oq [] λd H'=>d=x/\H' = [])
  (hs:args.map (gd (λ_=>none) s.H 40)=oq) (b:flat x=true) (a:closed x=true) (k:K { s with env:=put s.env dst x }):gj T f args dst s K .mk:=by
 refine gj.is e c (K0:=λd H'=>d=x/\H' = []) (by rw[hs];exact h) ?_;rintro d Hn ⟨rfl,rfl⟩;obtain⟨k1,k2⟩:=FD (H:=s.H) a;refine⟨{ s with env:=put s.env dst d },?_,k⟩;have:oH d=true:=(P1 (H:=s.H) b).1;unfold after;rw[this,k1,k2];simp
theorem iW.c{f:FuncId}{args:List D}{R:List Fp}{dst:Option Nat}{s:St}{Q:Rc->St->Prop}{fn:je}{x:D}(e:T.fn f=some fn)(c:fn.full=false)(h:Wf T f args [] λd H'=>d=x/\H' = [])
  (a:gw args=true) (b:closed x=true) (k:Q ⟨R,[]⟩ { s with env:=put s.env dst x }):iW T f args R dst s Q .mk:=by
 refine⟨fn,x,e,c,?_,by rw[if_pos a];exact b,k⟩
 have i:args.map (gd (λ_=>none) s.H 40)=args:=by
  conv=>rhs;rw[<-aY args]
  exact au λd g=>p5 (lH a d g)
 rw[i];exact h
theorem iW.r{f:FuncId}{args oq:List D}{R:List Fp}{dst:Option Nat}{s:St}{Q:Rc->St->Prop}{fn:je}{x:D}(b:T.fn f=some fn)(a:fn.full=false)(h:Wf T f oq [] λd H'=>d=x/\H' = [])
  (hs:args.map (gd (λ_=>none) s.H 40)=oq) (e:flat x=true) (c:closed x=true) (k:Q ⟨R,[]⟩ { s with env:=put s.env dst x }):iW T f args R dst s Q .mk:=
 ⟨fn,x,b,a,by rw[hs];exact h,by split<;>assumption,k⟩
variable{s:St}{K:iQ}{a b:IR}{l:List gR}{op:iD}{k j:Nat}
@[simp ↓] theorem aoI:XC T .skip s K=K (.norm s):=(rfl)
@[simp ↓] theorem aoE:XC T (.ops l) s K=XO T l s λa=>K (.norm a):=(rfl)
@[simp ↓] theorem aoy{a:List (Nat×Nat)}:XC T (.lU a l) s K=XT T l s λrs b=>vM a rs=true/\K (.norm b):=(rfl)
@[simp ↓] theorem aoz{b:List (Nat×Nat)}{es:List gR}:XC T (.mF b l es) s K=XT T l s λrs a=>vM b rs=true/\XO T es a λa=>K (.norm a):=(rfl)
@[simp ↓] theorem aoH:XC T (.seq a b) s K=XC T a s (NW T b K):=(rfl)
@[simp ↓] theorem aox{c:X}:XC T (.cond c a b) s K=XB (ev s.env.get c) (XC T a s K) (XC T b s K) .mk:=(rfl)
@[simp ↓] theorem aow{id:Nat}{live:List Nat}:XC T (.block id live a) s K=XC T a s (xt id s.H.length live K):=(rfl)
@[simp ↓] theorem aoD{live:List Nat}:XC T (.loop live a) s K=fZ T live a s K .mk:=(rfl)
@[simp ↓] theorem aoF{rf:Nat}{live:List Nat}{x:X}:XC T (.nW rf live x) s K=sZ T rf live x s K .mk:=(rfl)
@[simp ↓] theorem aoB{S:List Nat}:XC T (.fz S a) s K=(wY s.marks (pN s.env S)=true/\XC T a (lW (pN s.env S) s) K):=(rfl)
@[simp ↓] theorem aoC{S:List Nat}{x y:List gR}:XC T (.u5 S x y) s K=XO T x s λa=>wY a.marks (pN a.env S)=true/\XO T y (lW (pN a.env S) a) λa=>K (.norm a):=(rfl)
@[simp ↓] theorem aoA{id:Nat}:XC T (.exit id) s K=K (.exit id s):=(rfl)
@[simp ↓] theorem aoG:XC T .ret s K=K (.ret s):=(rfl)
@[simp ↓] theorem avJ:NW T b K (.norm s)=XC T b s K:=(rfl)
@[simp ↓] theorem avI{id:Nat}:NW T b K (.exit id s)=K (.exit id s):=(rfl)
@[simp ↓] theorem avK:NW T b K (.ret s)=K (.ret s):=(rfl)
@[simp ↓] theorem UH{id n:Nat}{live:List Nat}:xt id n live K (.norm s)=K (.norm (cut n live s)):=(rfl)
@[simp ↓] theorem arc{id n:Nat}{live:List Nat}:xt id n live K (.ret s)=K (.ret s):=(rfl)
@[simp ↓] theorem UI{id n:Nat}{live:List Nat}:xt id n live K (.exit id s)=K (.norm (cut n live s)):=by simp[xt,lG]
@[simp ↓] theorem arb{id a n:Nat}{live:List Nat}(h:a≠id):xt id n live K (.exit a s)=K (.exit a s):=by simp[xt,lG,h]
@[simp ↓] theorem as4{rs:List uR}{own n:Nat}{K:D->U->Prop}:y9 rs own n K (.ret s)=oA (kill s.marks s.H) (λH=>oA (uJ { s with H:=H } rs) (λds=>K (leave own n H (uI ds)).1 (leave own n H (uI ds)).2) .mk) .mk:=(rfl)
@[simp ↓] theorem as3{rs:List uR}{own n:Nat}{K:D->U->Prop}:y9 rs own n K (.norm s)=oA (kill s.marks s.H) (λH=>oA (uJ { s with H:=H } rs) (λds=>K (leave own n H (uI ds)).1 (leave own n H (uI ds)).2) .mk) .mk:=(rfl)
@[simp ↓] theorem aoP{K:St->Prop}:XO T [] s K=K s:=(rfl)
@[simp ↓] theorem aoQ{K:St->Prop}:XO T (o k op::l) s K=iL T op (some k) s λa=>XO T l a K:=by simp[XO,guardOf]
@[simp ↓] theorem aoS{K:St->Prop}:XO T (u op::l) s K=iL T op none s λa=>XO T l a K:=by simp[XO,guardOf]
@[simp ↓] theorem aoR{g:Bool}{K:St->Prop}:XO T (og j g k op::l) s K=XG (guardOf s.env.get (some (j,g))) (iL T op (some k) s λa=>XO T l a K) (XO T l { s with env:=(k,.val undef)::s.env } K) .mk:=(rfl)
@[simp ↓] theorem aoT{g:Bool}{K:St->Prop}:XO T (ug j g op::l) s K=XG (guardOf s.env.get (some (j,g))) (iL T op none s λa=>XO T l a K) (XO T l s K) .mk:=(rfl)
@[simp ↓] theorem apJ{Q:List Rc->St->Prop}:XT T [] s Q=Q [] s:=(rfl)
@[simp ↓] theorem apK{Q:List Rc->St->Prop}:XT T (o k op::l) s Q=jL T op (some k) s λrc b=>XT T l b λrs a=>Q (rc::rs) a:=by simp[XT,guardOf]
@[simp ↓] theorem apM{Q:List Rc->St->Prop}:XT T (u op::l) s Q=jL T op none s λrc b=>XT T l b λrs a=>Q (rc::rs) a:=by simp[XT,guardOf]
@[simp ↓] theorem apL{g:Bool}{Q:List Rc->St->Prop}:XT T (og j g k op::l) s Q=XG (guardOf s.env.get (some (j,g))) (jL T op (some k) s λrc b=>XT T l b λrs a=>Q (rc::rs) a) (XT T l { s with env:=(k,.val undef)::s.env } λrs a=>Q (⟨[],[]⟩::rs) a) .mk:=(rfl)
@[simp ↓] theorem apN{g:Bool}{Q:List Rc->St->Prop}:XT T (ug j g op::l) s Q=XG (guardOf s.env.get (some (j,g))) (jL T op none s λrc b=>XT T l b λrs a=>Q (rc::rs) a) (XT T l s λrs a=>Q (⟨[],[]⟩::rs) a) .mk:=(rfl)
@[simp ↓] theorem auD{dst:Option Nat}{K:St->Prop}{d:D}{δ:Dl}:kp s dst K (d,δ)=K { s with env:=put s.env dst d,H:=δ.app s.H (Al.last s.H) }:=(rfl)
@[simp ↓] theorem auE{dst:Option Nat}{R:List Fp}{Q:Rc->St->Prop}{d:D}{δ:Dl}:kt s dst R Q (d,δ)=Q ⟨R,jO s.H.length δ⟩ { s with env:=put s.env dst d,H:=δ.app s.H (Al.last s.H) }:=(rfl)
section
variable{dst:Option Nat}{K:St->Prop}{Q:Rc->St->Prop}
@[simp ↓] theorem apu{x:X}:iL T (.mv x) dst s K=oA (gH s.env.get s.H s.H.length (.mv x)) (kp s dst K) .mk:=(rfl)
@[simp ↓] theorem aqh{x:X}:jL T (.mv x) dst s Q=oA (gH s.env.get s.H s.H.length (.mv x)) (kt s dst (gK s.env.get s.H (.mv x)) Q) .mk:=(rfl)
@[simp ↓] theorem apz{c a b:X}:iL T (.pick c a b) dst s K=oA (gH s.env.get s.H s.H.length (.pick c a b)) (kp s dst K) .mk:=(rfl)
@[simp ↓] theorem aqj{c a b:X}:jL T (.pick c a b) dst s Q=oA (gH s.env.get s.H s.H.length (.pick c a b)) (kt s dst (gK s.env.get s.H (.pick c a b)) Q) .mk:=(rfl)
@[simp ↓] theorem aoZ{t:TypeId}{x:X}:iL T (.box t x) dst s K=oA (gH s.env.get s.H s.H.length (.box t x)) (kp s dst K) .mk:=(rfl)
@[simp ↓] theorem apS{t:TypeId}{x:X}:jL T (.box t x) dst s Q=oA (gH s.env.get s.H s.H.length (.box t x)) (kt s dst (gK s.env.get s.H (.box t x)) Q) .mk:=(rfl)
@[simp ↓] theorem aoU{t:TypeId}{z:List D}:iL T (.alloc t z) dst s K=oA (gH s.env.get s.H s.H.length (.alloc t z)) (kp s dst K) .mk:=(rfl)
@[simp ↓] theorem apO{t:TypeId}{z:List D}:jL T (.alloc t z) dst s Q=oA (gH s.env.get s.H s.H.length (.alloc t z)) (kt s dst (gK s.env.get s.H (.alloc t z)) Q) .mk:=(rfl)
@[simp ↓] theorem ao0{z:List D}{ps:List (Nat×Nat×X)}:iL T (.build z ps) dst s K=oA (gH s.env.get s.H s.H.length (.build z ps)) (kp s dst K) .mk:=(rfl)
@[simp ↓] theorem apT{z:List D}{ps:List (Nat×Nat×X)}:jL T (.build z ps) dst s Q=oA (gH s.env.get s.H s.H.length (.build z ps)) (kt s dst (gK s.env.get s.H (.build z ps)) Q) .mk:=(rfl)
@[simp ↓] theorem ao1{t sz:Nat}{z:List D}{n:Nat}{ps:List (Nat×X)}:iL T (.buildSl t sz z n ps) dst s K=oA (gH s.env.get s.H s.H.length (.buildSl t sz z n ps)) (kp s dst K) .mk:=(rfl)
@[simp ↓] theorem apU{t sz:Nat}{z:List D}{n:Nat}{ps:List (Nat×X)}:jL T (.buildSl t sz z n ps) dst s Q=oA (gH s.env.get s.H s.H.length (.buildSl t sz z n ps)) (kt s dst (gK s.env.get s.H (.buildSl t sz z n ps)) Q) .mk:=(rfl)
@[simp ↓] theorem apj{x:X}:iL T (.ld1 x) dst s K=oA (gH s.env.get s.H s.H.length (.ld1 x)) (kp s dst K) .mk:=(rfl)
@[simp ↓] theorem ap8{x:X}:jL T (.ld1 x) dst s Q=oA (gH s.env.get s.H s.H.length (.ld1 x)) (kt s dst (gK s.env.get s.H (.ld1 x)) Q) .mk:=(rfl)
@[simp ↓] theorem apk{n:Nat}{x:X}:iL T (.ldN n x) dst s K=oA (gH s.env.get s.H s.H.length (.ldN n x)) (kp s dst K) .mk:=(rfl)
@[simp ↓] theorem ap9{n:Nat}{x:X}:jL T (.ldN n x) dst s Q=oA (gH s.env.get s.H s.H.length (.ldN n x)) (kt s dst (gK s.env.get s.H (.ldN n x)) Q) .mk:=(rfl)
@[simp ↓] theorem apG{a x:X}:iL T (.st1 a x) dst s K=oA (gH s.env.get s.H s.H.length (.st1 a x)) (kp s dst K) .mk:=(rfl)
@[simp ↓] theorem aqo{a x:X}:jL T (.st1 a x) dst s Q=oA (gH s.env.get s.H s.H.length (.st1 a x)) (kt s dst (gK s.env.get s.H (.st1 a x)) Q) .mk:=(rfl)
@[simp ↓] theorem apH{n:Nat}{a x:X}:iL T (.stN n a x) dst s K=oA (gH s.env.get s.H s.H.length (.stN n a x)) (kp s dst K) .mk:=(rfl)
@[simp ↓] theorem aqp{n:Nat}{a x:X}:jL T (.stN n a x) dst s Q=oA (gH s.env.get s.H s.H.length (.stN n a x)) (kt s dst (gK s.env.get s.H (.stN n a x)) Q) .mk:=(rfl)
@[simp ↓] theorem apy{x:X}:iL T (.nilck x) dst s K=oA (gH s.env.get s.H s.H.length (.nilck x)) (kp s dst K) .mk:=(rfl)
@[simp ↓] theorem aqi{x:X}:jL T (.nilck x) dst s Q=oA (gH s.env.get s.H s.H.length (.nilck x)) (kt s dst (gK s.env.get s.H (.nilck x)) Q) .mk:=(rfl)
@[simp ↓] theorem aoX{op:BinOp}{x y:X}:iL T (.arith op x y) dst s K=oA (gH s.env.get s.H s.H.length (.arith op x y)) (kp s dst K) .mk:=(rfl)
@[simp ↓] theorem apQ{op:BinOp}{x y:X}:jL T (.arith op x y) dst s Q=oA (gH s.env.get s.H s.H.length (.arith op x y)) (kt s dst (gK s.env.get s.H (.arith op x y)) Q) .mk:=(rfl)
@[simp ↓] theorem apb{a:Bool}{ls:List mq}{neg:Bool}{x y:X}:iL T (.eqS a ls neg x y) dst s K=oA (gH s.env.get s.H s.H.length (.eqS a ls neg x y)) (kp s dst K) .mk:=(rfl)
@[simp ↓] theorem ap0{a:Bool}{ls:List mq}{neg:Bool}{x y:X}:jL T (.eqS a ls neg x y) dst s Q=oA (gH s.env.get s.H s.H.length (.eqS a ls neg x y)) (kt s dst (gK s.env.get s.H (.eqS a ls neg x y)) Q) .mk:=(rfl)
@[simp ↓] theorem apI{op:UnOp}{x:X}:iL T (.un op x) dst s K=oA (gH s.env.get s.H s.H.length (.un op x)) (kp s dst K) .mk:=(rfl)
@[simp ↓] theorem aqq{op:UnOp}{x:X}:jL T (.un op x) dst s Q=oA (gH s.env.get s.H s.H.length (.un op x)) (kt s dst (gK s.env.get s.H (.un op x)) Q) .mk:=(rfl)
@[simp ↓] theorem ao7{k:IntKind}{x:X}:iL T (.conv k x) dst s K=oA (gH s.env.get s.H s.H.length (.conv k x)) (kp s dst K) .mk:=(rfl)
@[simp ↓] theorem apY{k:IntKind}{x:X}:jL T (.conv k x) dst s Q=oA (gH s.env.get s.H s.H.length (.conv k x)) (kt s dst (gK s.env.get s.H (.conv k x)) Q) .mk:=(rfl)
@[simp ↓] theorem aoY{x:X}:iL T (.b2s x) dst s K=oA (gH s.env.get s.H s.H.length (.b2s x)) (kp s dst K) .mk:=(rfl)
@[simp ↓] theorem apR{x:X}:jL T (.b2s x) dst s Q=oA (gH s.env.get s.H s.H.length (.b2s x)) (kt s dst (gK s.env.get s.H (.b2s x)) Q) .mk:=(rfl)
@[simp ↓] theorem apr{fn:Fn}{first a:List X}:iL T (.mkfn fn first a) dst s K=oA (gH s.env.get s.H s.H.length (.mkfn fn first a)) (kp s dst K) .mk:=(rfl)
@[simp ↓] theorem aqe{fn:Fn}{first a:List X}:jL T (.mkfn fn first a) dst s Q=oA (gH s.env.get s.H s.H.length (.mkfn fn first a)) (kt s dst (gK s.env.get s.H (.mkfn fn first a)) Q) .mk:=(rfl)
@[simp ↓] theorem aps{kk:KK}:iL T (.mkmap kk) dst s K=oA (gH s.env.get s.H s.H.length (.mkmap kk)) (kp s dst K) .mk:=(rfl)
@[simp ↓] theorem aqf{kk:KK}:jL T (.mkmap kk) dst s Q=oA (gH s.env.get s.H s.H.length (.mkmap kk)) (kt s dst (gK s.env.get s.H (.mkmap kk)) Q) .mk:=(rfl)
@[simp ↓] theorem apt{t sz bytes:Nat}{z:List D}{l c:X}:iL T (.mksl t sz bytes z l c) dst s K=oA (gH s.env.get s.H s.H.length (.mksl t sz bytes z l c)) (kp s dst K) .mk:=(rfl)
@[simp ↓] theorem aqg{t sz bytes:Nat}{z:List D}{l c:X}:jL T (.mksl t sz bytes z l c) dst s Q=oA (gH s.env.get s.H s.H.length (.mksl t sz bytes z l c)) (kt s dst (gK s.env.get s.H (.mksl t sz bytes z l c)) Q) .mk:=(rfl)
@[simp ↓] theorem apC{sz:Nat}{x:X}{lo hi:Option X}:iL T (.slc sz x lo hi) dst s K=oA (gH s.env.get s.H s.H.length (.slc sz x lo hi)) (kp s dst K) .mk:=(rfl)
@[simp ↓] theorem aqk{sz:Nat}{x:X}{lo hi:Option X}:jL T (.slc sz x lo hi) dst s Q=oA (gH s.env.get s.H s.H.length (.slc sz x lo hi)) (kt s dst (gK s.env.get s.H (.slc sz x lo hi)) Q) .mk:=(rfl)
@[simp ↓] theorem apD{sz:Nat}{x:X}{lo:Option X}{hi mx:X}:iL T (.slc3 sz x lo hi mx) dst s K=oA (gH s.env.get s.H s.H.length (.slc3 sz x lo hi mx)) (kp s dst K) .mk:=(rfl)
@[simp ↓] theorem aql{sz:Nat}{x:X}{lo:Option X}{hi mx:X}:jL T (.slc3 sz x lo hi mx) dst s Q=oA (gH s.env.get s.H s.H.length (.slc3 sz x lo hi mx)) (kt s dst (gK s.env.get s.H (.slc3 sz x lo hi mx)) Q) .mk:=(rfl)
@[simp ↓] theorem apE{sz n:Nat}{x:X}{lo hi:Option X}:iL T (.slcArr sz n x lo hi) dst s K=oA (gH s.env.get s.H s.H.length (.slcArr sz n x lo hi)) (kp s dst K) .mk:=(rfl)
@[simp ↓] theorem aqm{sz n:Nat}{x:X}{lo hi:Option X}:jL T (.slcArr sz n x lo hi) dst s Q=oA (gH s.env.get s.H s.H.length (.slcArr sz n x lo hi)) (kt s dst (gK s.env.get s.H (.slcArr sz n x lo hi)) Q) .mk:=(rfl)
@[simp ↓] theorem apF{x:X}{lo hi:Option X}:iL T (.slcS x lo hi) dst s K=oA (gH s.env.get s.H s.H.length (.slcS x lo hi)) (kp s dst K) .mk:=(rfl)
@[simp ↓] theorem aqn{x:X}{lo hi:Option X}:jL T (.slcS x lo hi) dst s Q=oA (gH s.env.get s.H s.H.length (.slcS x lo hi)) (kt s dst (gK s.env.get s.H (.slcS x lo hi)) Q) .mk:=(rfl)
@[simp ↓] theorem ape{off:Nat}{x:X}:iL T (.fieldA off x) dst s K=oA (gH s.env.get s.H s.H.length (.fieldA off x)) (kp s dst K) .mk:=(rfl)
@[simp ↓] theorem ap3{off:Nat}{x:X}:jL T (.fieldA off x) dst s Q=oA (gH s.env.get s.H s.H.length (.fieldA off x)) (kt s dst (gK s.env.get s.H (.fieldA off x)) Q) .mk:=(rfl)
@[simp ↓] theorem apd{off n:Nat}{a:Bool}{x:X}:iL T (.field off n a x) dst s K=oA (gH s.env.get s.H s.H.length (.field off n a x)) (kp s dst K) .mk:=(rfl)
@[simp ↓] theorem ap2{off n:Nat}{a:Bool}{x:X}:jL T (.field off n a x) dst s Q=oA (gH s.env.get s.H s.H.length (.field off n a x)) (kt s dst (gK s.env.get s.H (.field off n a x)) Q) .mk:=(rfl)
@[simp ↓] theorem apg{sz:Nat}{x i:X}:iL T (.idxA sz x i) dst s K=oA (gH s.env.get s.H s.H.length (.idxA sz x i)) (kp s dst K) .mk:=(rfl)
@[simp ↓] theorem ap5{sz:Nat}{x i:X}:jL T (.idxA sz x i) dst s Q=oA (gH s.env.get s.H s.H.length (.idxA sz x i)) (kt s dst (gK s.env.get s.H (.idxA sz x i)) Q) .mk:=(rfl)
@[simp ↓] theorem aph{sz n:Nat}{x i:X}:iL T (.idxArr sz n x i) dst s K=oA (gH s.env.get s.H s.H.length (.idxArr sz n x i)) (kp s dst K) .mk:=(rfl)
@[simp ↓] theorem ap6{sz n:Nat}{x i:X}:jL T (.idxArr sz n x i) dst s Q=oA (gH s.env.get s.H s.H.length (.idxArr sz n x i)) (kt s dst (gK s.env.get s.H (.idxArr sz n x i)) Q) .mk:=(rfl)
@[simp ↓] theorem apf{sz n:Nat}{a:Bool}{x i:X}:iL T (.idx sz n a x i) dst s K=oA (gH s.env.get s.H s.H.length (.idx sz n a x i)) (kp s dst K) .mk:=(rfl)
@[simp ↓] theorem ap4{sz n:Nat}{a:Bool}{x i:X}:jL T (.idx sz n a x i) dst s Q=oA (gH s.env.get s.H s.H.length (.idx sz n a x i)) (kt s dst (gK s.env.get s.H (.idx sz n a x i)) Q) .mk:=(rfl)
@[simp ↓] theorem api{x i:X}:iL T (.idxStr x i) dst s K=oA (gH s.env.get s.H s.H.length (.idxStr x i)) (kp s dst K) .mk:=(rfl)
@[simp ↓] theorem ap7{x i:X}:jL T (.idxStr x i) dst s Q=oA (gH s.env.get s.H s.H.length (.idxStr x i)) (kt s dst (gK s.env.get s.H (.idxStr x i)) Q) .mk:=(rfl)
@[simp ↓] theorem apm{kk:KK}{z:D}{ok:Bool}{m k:X}:iL T (.lookup kk z ok m k) dst s K=oA (gH s.env.get s.H s.H.length (.lookup kk z ok m k)) (kp s dst K) .mk:=(rfl)
@[simp ↓] theorem aqb{kk:KK}{z:D}{ok:Bool}{m k:X}:jL T (.lookup kk z ok m k) dst s Q=oA (gH s.env.get s.H s.H.length (.lookup kk z ok m k)) (kt s dst (gK s.env.get s.H (.lookup kk z ok m k)) Q) .mk:=(rfl)
@[simp ↓] theorem apo{kk:KK}{m k v:X}:iL T (.mapUpd kk m k v) dst s K=oA (gH s.env.get s.H s.H.length (.mapUpd kk m k v)) (kp s dst K) .mk:=(rfl)
@[simp ↓] theorem aqc{kk:KK}{m k v:X}:jL T (.mapUpd kk m k v) dst s Q=oA (gH s.env.get s.H s.H.length (.mapUpd kk m k v)) (kt s dst (gK s.env.get s.H (.mapUpd kk m k v)) Q) .mk:=(rfl)
@[simp ↓] theorem apc{x:X}{i:Nat}:iL T (.ext x i) dst s K=oA (gH s.env.get s.H s.H.length (.ext x i)) (kp s dst K) .mk:=(rfl)
@[simp ↓] theorem ap1{x:X}{i:Nat}:jL T (.ext x i) dst s Q=oA (gH s.env.get s.H s.H.length (.ext x i)) (kt s dst (gK s.env.get s.H (.ext x i)) Q) .mk:=(rfl)
@[simp ↓] theorem ao2{f:FuncId}{args:List X}:iL T (.call f args) dst s K=gj T f (args.map (ev s.env.get)) dst s K .mk:=(rfl)
@[simp ↓] theorem apV{f:FuncId}{args:List X}:jL T (.call f args) dst s Q=iW T f (args.map (ev s.env.get)) (gK s.env.get s.H (.call f args)) dst s Q .mk:=(rfl)
@[simp ↓] theorem ao3{f:FuncId}{args:List X}:iL T (.callN f args) dst s K=gj T f (args.map (ev s.env.get)) dst s K .mk:=(rfl)
@[simp ↓] theorem apW{f:FuncId}{args:List X}:jL T (.callN f args) dst s Q=tY T f (args.map (ev s.env.get)) (gK s.env.get s.H (.callN f args)) dst s Q .mk:=(rfl)
@[simp ↓] theorem ao4{f:X}{args:List X}:iL T (.callv f args) dst s K=wj T (ev s.env.get f) (args.map (ev s.env.get)) dst s K .mk:=(rfl)
@[simp] theorem aoJ{k:FuncId}{first cap args:List D}:wj T (.fn (.func k) first cap) args dst s K .mk=gj T k (first++args++cap) dst s K .mk:=by show oA (some (k,first++args++cap)) (λp=>gj T p.1 p.2 dst s K .mk) .mk=_;simp only[zW]
@[simp] theorem aoK{v:Nat}{args:List D}:wj T (.iP v) args dst s K .mk=qc T v args dst s K .mk:=(rfl)
@[simp ↓] theorem apX{f:X}{args:List X}:jL T (.callv f args) dst s Q=oA (kA s.env.get (.callv f args)) (λp=>iW T p.1 p.2 (gK s.env.get s.H (.callv f args)) dst s Q .mk) .mk:=(rfl)
@[simp ↓] theorem aoV{t sz bytes:Nat}{x y:X}:iL T (.app t sz bytes x y) dst s K=oA (gH s.env.get s.H s.H.length (.app t sz bytes x y)) (kp s dst K) .mk:=(rfl)
@[simp ↓] theorem apP{t sz bytes:Nat}{x y:X}:jL T (.app t sz bytes x y) dst s Q=oA (gH s.env.get s.H s.H.length (.app t sz bytes x y)) (kt s dst (gK s.env.get s.H (.app t sz bytes x y)) Q) .mk:=(rfl)
@[simp ↓] theorem ao8{sz:Nat}{x y:X}:iL T (.copy sz x y) dst s K=oA (gH s.env.get s.H s.H.length (.copy sz x y)) (kp s dst K) .mk:=(rfl)
@[simp ↓] theorem apZ{sz:Nat}{x y:X}:jL T (.copy sz x y) dst s Q=oA (gH s.env.get s.H s.H.length (.copy sz x y)) (kt s dst (gK s.env.get s.H (.copy sz x y)) Q) .mk:=(rfl)
@[simp ↓] theorem apl{k:Ar}{x:X}:iL T (.len k x) dst s K=oA (gH s.env.get s.H s.H.length (.len k x)) (kp s dst K) .mk:=(rfl)
@[simp ↓] theorem aqa{k:Ar}{x:X}:jL T (.len k x) dst s Q=oA (gH s.env.get s.H s.H.length (.len k x)) (kt s dst (gK s.env.get s.H (.len k x)) Q) .mk:=(rfl)
@[simp ↓] theorem apq{a:Bool}{xs:List X}:iL T (.minmax a xs) dst s K=oA (gH s.env.get s.H s.H.length (.minmax a xs)) (kp s dst K) .mk:=(rfl)
@[simp ↓] theorem aqd{a:Bool}{xs:List X}:jL T (.minmax a xs) dst s Q=oA (gH s.env.get s.H s.H.length (.minmax a xs)) (kt s dst (gK s.env.get s.H (.minmax a xs)) Q) .mk:=(rfl)
@[simp ↓] theorem apx{neg:Bool}{x:X}:iL T (.nilS neg x) dst s K=oA (ml s.env.get s.H s.H.length (.nilS neg x)) (kp s dst K) .mk:=(rfl)
@[simp ↓] theorem ao5{x:X}:iL T (.capE x) dst s K=oA (ml s.env.get s.H s.H.length (.capE x)) (kp s dst K) .mk:=(rfl)
@[simp ↓] theorem aoW{t sz bytes:Nat}{z:List D}{x n:X}:iL T (.appZ t sz bytes z x n) dst s K=oA (ml s.env.get s.H s.H.length (.appZ t sz bytes z x n)) (kp s dst K) .mk:=(rfl)
@[simp ↓] theorem ao6{sz:Nat}{z:List D}{x:X}:iL T (.clr sz z x) dst s K=oA (ml s.env.get s.H s.H.length (.clr sz z x)) (kp s dst K) .mk:=(rfl)
@[simp ↓] theorem apB{x:X}:iL T (.rangeS x) dst s K=oA (ml s.env.get s.H s.H.length (.rangeS x)) (kp s dst K) .mk:=(rfl)
@[simp ↓] theorem apw{x:X}:iL T (.nextS x) dst s K=oA (ml s.env.get s.H s.H.length (.nextS x)) (kp s dst K) .mk:=(rfl)
@[simp ↓] theorem apA{x:X}:iL T (.rangeM x) dst s K=oA (ml s.env.get s.H s.H.length (.rangeM x)) (kp s dst K) .mk:=(rfl)
@[simp ↓] theorem apv{x:X}:iL T (.nextM x) dst s K=tX (ev s.env.get x) dst s K .mk:=(rfl)
@[simp ↓] theorem apn{kk:KK}{z:D}{m k:X}:iL T (.mapEnt kk z m k) dst s K=oA (ml s.env.get s.H s.H.length (.mapEnt kk z m k)) (kp s dst K) .mk:=(rfl)
@[simp ↓] theorem ao9{m k x:X}:iL T (.entSt m k x) dst s K=oA (ml s.env.get s.H s.H.length (.entSt m k x)) (kp s dst K) .mk:=(rfl)
@[simp ↓] theorem apa{x:X}:iL T (.entry x) dst s K=oA (ml s.env.get s.H s.H.length (.entry x)) (kp s dst K) .mk:=(rfl)
end
end
def vJ(n:Nat)(live keys:List Nat)(J:Env->U->List Nat->Bool->Prop)(K:iQ):iQ:=λo=>match o with
 | .norm s=>J (forget keys (cut n live s).env) (cut n live s).H (cut n live s).marks (cut n live s).iq
 | o=>K o
@[simp ↓] theorem YU{n:Nat}{live keys:List Nat}{J:Env->U->List Nat->Bool->Prop}{K:iQ}{s:St}:vJ n live keys J K (.norm s)=J (forget keys (cut n live s).env) (cut n live s).H (cut n live s).marks (cut n live s).iq:=(rfl)
@[simp ↓] theorem avi{n:Nat}{live keys:List Nat}{J:Env->U->List Nat->Bool->Prop}{K:iQ}{id:Nat}{s:St}:vJ n live keys J K (.exit id s)=K (.exit id s):=(rfl)
@[simp ↓] theorem avk{n:Nat}{live keys:List Nat}{J:Env->U->List Nat->Bool->Prop}{K:iQ}{s:St}:vJ n live keys J K (.ret s)=K (.ret s):=(rfl)
theorem fZ.i{T:il}{live:List Nat}{a:IR}{s:St}{K:iQ}{α:Type}(keys:List Nat)(j:(keys.all λk=>live.contains k)=true)(E:α->Env)(f:α->U)(P:α->Prop)(c:α->Nat)(d:α)
  (h0:P d) (p:forget keys s.env=E d) (n:s.H=f d)
  (h:∀x,P x->XC T a { env:=E x,H:=f x,marks:=s.marks,iq:=s.iq } (vJ s.H.length live keys (λe H m r=>∃b,e=E b/\H=f b/\m=s.marks/\r=s.iq/\c b<c x/\P b) K)):fZ T live a s K .mk:=by
 refine Wc.loop (λm g=>∃x,P x/\m=c x/\({ g with env:=forget keys g.env }:St) = { env:=E x,H:=f x,marks:=s.marks,iq:=s.iq }) (c d) ⟨d,h0,rfl,?_⟩ ?_
 .dsimp only;rw[Wq j,p];rw[<-n]
 .rintro m g ⟨x,hP,rfl,l⟩;refine Ev.F3 keys ?_;rw[l];refine(XC.wc (h x hP)).mono λo i=>?_
  cases o with
  | norm v=>
   obtain⟨b,t,z,y,w,u,h1⟩:=i;refine⟨c b,u,b,h1,rfl,?_⟩;rw[t];generalize cut s.H.length live v=q at *;cases q;simp_all
  | exit=>exact i
  | ret=>exact i
theorem fZ.j{T:il}{live:List Nat}{a:IR}{s:St}{K:iQ}{α:Type}(b:α)(E:α->Env)(d:α->U)(P:α->Prop)(f:α->Nat)
  (h0:P b) (j:forget ((E b).map (·.1)) s.env=E b) (i:s.H=d b) (g:(((E b).map (·.1)).all λk=>live.contains k)=true)
  (h:∀x,P x->XC T a { env:=E x,H:=d x,marks:=s.marks,iq:=s.iq } (vJ s.H.length live ((E b).map (·.1)) (λe H m r=>∃c,e=E c/\H=d c/\m=s.marks/\r=s.iq/\f c<f x/\P c) K)):fZ T live a s K .mk:=
 fZ.i ((E b).map (·.1)) g E d P f b h0 j i h
@[simp] theorem sC{n:Nat}{live:List Nat}{env:Env}{H:U}{m:List Nat}{r:Bool}(h:H.length<=n):cut n live { env:=env,H:=H,marks:=m,iq:=r } = { env:=forget live env,H:=H,marks:=m,iq:=r }:=Vi h
def Is(x:D):D->U->Prop:=λd Hn=>d=x/\Hn = []
@[simp] theorem aoi(x d:D)(H:U):Is x d H=(d=x/\H = []):=rfl
@[simp] theorem awX(x:Bool)(a b:D):BX (.b x) a b=some (cond x a b):=by cases x<;>rfl
@[simp] theorem av9(c:Bool)(a b d e:D)(P:D->Prop):oA (BX (bif c then a else b) d e) P .mk=X2 c (oA (BX a d e) P .mk) (oA (BX b d e) P .mk) .mk:=by cases c<;>simp
@[simp] theorem YK{n:Nat}{H:U}{d:D}(h:H.length<=n)(own:Nat):leave own n H d=(d,H):=by unfold leave;rw[if_pos (.inl h)]
@[simp] theorem auR{n:Nat}{H:U}{d:D}:leave 4 n H d=(d,H):=by unfold leave;rw[if_pos (.inr rfl)]
section
variable{P:D->Prop}{a b:Int}
@[simp] theorem avS:oA (jN .add .i64 a b) P .mk=(nU (a+b)/\P (.i (a+b))):=by simp only[jN,if_true];rw[BT,zW]
@[simp] theorem awe:oA (jN .sub .i64 a b) P .mk=(nU (a-b)/\P (.i (a-b))):=by simp only[jN,if_true];rw[BT,zW]
@[simp] theorem av8:oA (jN .mul .i64 a b) P .mk=(nU (a*b)/\P (.i (a*b))):=by simp only[jN,if_true];rw[BT,zW]
end
def uG(a b:Int):Int:=IntKind.i64.wrap (a.tdiv b)
def gp(a b:Int):Int:=a.tmod b
theorem mV{n:Int}(h:nU n):IntKind.i64.wrap n=n:=by unfold nU at h;simp only[IntKind.wrap,IntKind.bits,IntKind.signed];simp;omega
theorem uH{a b:Int}(h0:0<=a)(h1:a<=9223372036854775807)(c:0<b):uG a b=a / b:=by unfold uG;rw[Int.tdiv_eq_ediv_of_nonneg h0,mV];have e:0<=a / b:=Int.ediv_nonneg h0 (by omega);have d:a / b<=a:=Int.ediv_le_self b h0;exact im
theorem jt{a b:Int}(h0:0<=a):gp a b=a % b:=Int.tmod_eq_emod_of_nonneg h0
section
variable{P:D->Prop}{a b:Int}{t:Tag P}
@[simp] theorem awa:oA (jN .quo .i64 a b) P t=(b≠0/\P (.i (uG a b))):=by
 cases t;simp only[jN]
 by_cases h:b=0<;>simp[h,uG]
@[simp] theorem awc:oA (jN .rem .i64 a b) P t=(b≠0/\P (.i (gp a b))):=by
 cases t;simp only[jN]
 by_cases h:b=0<;>simp[h,gp]
end
@[simp] theorem at0(n:Int):nU n=(-9223372036854775808<=n/\n<=9223372036854775807):=rfl
def gt{α:Type}[Inhabited α](l:List α)(n:Int):α:=l.getD n.toNat default
theorem gq{α:Type}[Inhabited α]{l:List α}{n:Int}(h0:0<=n)(h:n<l.length):gt l n∈l:=by unfold gt;rw[List.getD_eq_getElem?_getD,List.getElem?_eq_getElem (by omega),aW];exact bP _
theorem jb{α:Type}[Inhabited α]{l:List α}{n:Int}(h0:0<=n)(h:n<l.length):gt l n=l[n.toNat]:=by unfold gt;rw[List.getD_eq_getElem?_getD,List.getElem?_eq_getElem (by omega),aW]
theorem AZ{α:Type}[Inhabited α]{l:List α}{n:Nat}(h:n<l.length):gt l n=l[n]:=jb (by omega) (by omega)
theorem jd{α:Type}[Inhabited α]{l:List α}{n:Int}(h0:0<=n)(h:n<l.length):l.take (n+1).toNat=l.take n.toNat ++ [gt l n]:=by rw[jb h0 h,<-List.take_succ_eq_append_getElem (by omega)];congr 1;omega
theorem nN{α:Type}[Inhabited α]{l:List α}{n:Int}(h0:0<=n)(h:n<l.length):l.drop n.toNat=gt l n::l.drop (n.toNat+1):=by rw[jb h0 h];exact bH (by omega)
theorem vL{α:Type}[Inhabited α]{l:List α}{x:α}:x∈l↔∃n:Int,0<=n/\n<l.length/\gt l n=x:=by
 constructor
 .intro h;obtain⟨i,hi,e⟩:=List.getElem_of_mem h;exact⟨i,by omega,by omega,by rw[AZ hi,e]⟩
 .rintro⟨n,h0,h1,rfl⟩;exact gq h0 h1
theorem kW{α:Type}{l:List α}{n:Int}(h:(l.length:Int)<=n):l.take n.toNat=l:=af (by omega)
section
variable{α:Type}[Inhabited α]{sz:Nat}{f:α->List D}{P:D->Prop}{k:IntKind}
theorem yk{l:List α}{n:Int}:oA (mB sz (.sl sz (l.map f)) (.val (.int k n))) P .mk=((0<=n/\n<l.length)/\P (.gi (f (gt l n)))):=by
 simp only[mB,List.length_map,true_and,BT,zW];refine propext ⟨λ⟨h,a⟩=>⟨h,?_⟩,λ⟨h,a⟩=>⟨h,?_⟩⟩
 .rw[List.getD_eq_getElem?_getD,av,List.getElem?_eq_getElem (by omega),aG,aW]at a;unfold gt;rw[List.getD_eq_getElem?_getD,List.getElem?_eq_getElem (by omega),aW];exact a
 .rw[List.getD_eq_getElem?_getD,av,List.getElem?_eq_getElem (by omega),aG,aW];unfold gt at a;rw[List.getD_eq_getElem?_getD,List.getElem?_eq_getElem (by omega),aW]at a;exact a
@[simp] theorem avY{l:List α}{n:Int}:oA (mB sz (.sl sz (l.map f)) (.val (.int k n))) P .mk=((0<=n/\n<l.length)/\P (.gi (f (gt l n)))):=yk
@[simp] theorem avX{l:List Int}{n:Int}:oA (mB 1 (dI l) (.val (.int k n))) P .mk=((0<=n/\n<l.length)/\P (.gi [.i (gt l n)])):=by unfold dI;rw[yk,C6]
@[simp] theorem av3{l:List Pos}{n:Int}:oA (mB 5 (gQ l) (.val (.int k n))) P .mk=((0<=n/\n<l.length)/\P (.gi (gt l n).cells)):=yk
@[simp] theorem av2{l:List fO}{n:Int}:oA (mB 2 (ie l) (.val (.int k n))) P .mk=((0<=n/\n<l.length)/\P (.gi [.i (gt l n).1,.i (gt l n).2])):=by unfold ie;rw[yk,AS]
@[simp] theorem av0{l:List α}{n:Int}:oA (mB sz (dN sz f l) (.val (.int k n))) P .mk=((0<=n/\n<l.length)/\P (.gi (f (gt l n)))):=by
 cases l with
 | nil=>
  simp only[dN,mB,Zp,cV];refine propext ⟨λh=>h.elim,λ⟨h,_⟩=>?_⟩;have:=h.1;have:=h.2;simp at this;omega
 | cons a l=>exact yk
end
def Ic(H:U)(k:Nat)(ρ:Nat->Option Nat)(v g sz off n:Nat):Option Nat->D
 | some v'=>.fM v' g sz off n
 | none=>match rowAt H v g with
  | some (_,cs)=>if (off+n)*sz<=cs.length then .sl sz (chunks sz n ((cs.drop (off*sz)).map (gd ρ H k)))else .any
  | none=>.any
@[simp] theorem Th(ρ:Nat->Option Nat)(H:U)(k v g sz off n:Nat):gd ρ H (k+1) (.fM v g sz off n)=Ic H k ρ v g sz off n (ρ v):=by rw[gd,if_neg (by simp[closed])];unfold Ic;rfl
@[simp] theorem ane(H:U)(k:Nat)(ρ:Nat->Option Nat)(v g sz off n v':Nat):Ic H k ρ v g sz off n (some v') = .fM v' g sz off n:=rfl
def Ie(H:U)(k:Nat)(ρ:Nat->Option Nat)(v g off:Nat):Option Nat->D
 | some v'=>.ptr v' g off
 | none=>match rowAt H v g with
  | some (_,cs)=>.gi ((cs.drop off).map (gd ρ H k))
  | none=>.any
@[simp] theorem anj(ρ:Nat->Option Nat)(H:U)(k v g off:Nat):gd ρ H (k+1) (.ptr v g off)=Ie H k ρ v g off (ρ v):=by rw[gd,if_neg (by simp[closed])];unfold Ie;rfl
@[simp] theorem anf(H:U)(k:Nat)(ρ:Nat->Option Nat)(v g off v':Nat):Ie H k ρ v g off (some v') = .ptr v' g off:=rfl
def Oq:Option Nat->D
 | some v'=>.gx v'
 | none=>.any
@[simp] theorem ani(ρ:Nat->Option Nat)(H:U)(k v:Nat):gd ρ H (k+1) (.gx v)=Oq (ρ v):=by rw[gd,if_neg (by simp[closed])];unfold Oq;rfl
@[simp] theorem anc(v:Nat):Oq (some v) = .gx v:=rfl
@[simp] theorem axE:Oq none = .any:=rfl
@[simp] theorem axO{ρ:Nat->Option Nat}{H:U}{k:Nat}{d:D}(h:closed d=true):gd ρ H k d=d:=p5 h
@[simp] theorem U2(cs:List D):closed (.agg cs)=gw cs:=by simp only[closed]
@[simp] theorem asB(cs:List D):closed (.tup cs)=gw cs:=by simp only[closed]
@[simp] theorem asx(cs:List D):closed (.gi cs)=gw cs:=by simp only[closed]
@[simp] theorem asC(v:Value):closed (.val v)=true:=by simp only[closed]
@[simp] theorem asw:closed .fX=true:=by simp only[closed]
@[simp] theorem U4(f:Fn)(a b:List D):closed (.fn f a b)=(gw a&&gw b):=by simp only[closed]
@[simp] theorem asz(v g sz off n:Nat):closed (.fM v g sz off n)=false:=by simp only[closed]
@[simp] theorem asA(v g o:Nat):closed (.ptr v g o)=false:=by simp only[closed]
@[simp] theorem asD(v:Nat):closed (.iP v)=false:=by simp only[closed]
theorem BL{ρ:Nat->Option Nat}{H:U}{k:Nat}{cs:List D}(h:gw cs=true):cs.map (gd ρ H k)=cs:=by
 conv=>rhs;rw[<-aY cs]
 exact au λd a=>p5 (lH h d a)
@[simp] theorem anh(ρ:Nat->Option Nat)(H:U)(k:Nat)(cs:List D):gd ρ H (k+1) (.agg cs) = .agg (cs.map (gd ρ H k)):=by
 by_cases h:closed (.agg cs)=true
 .rw[p5 h,BL (by simpa using h)]
 .rw[gd,if_neg h]
@[simp] theorem ank(ρ:Nat->Option Nat)(H:U)(k:Nat)(cs:List D):gd ρ H (k+1) (.tup cs) = .tup (cs.map (gd ρ H k)):=by
 by_cases h:closed (.tup cs)=true
 .rw[p5 h,BL (by simpa using h)]
 .rw[gd,if_neg h]
@[simp] theorem axP(ρ:Nat->Option Nat)(H:U)(k:Nat)(c:Bool)(a b:D):gd ρ H k (bif c then a else b)=bif c then gd ρ H k a else gd ρ H k b:=by cases c<;>rfl
theorem Tf{ρ:Nat->Option Nat}{H:U}{k:Nat}{cs:List D}(h:gw cs=true):cs.map (gd ρ H (k+1))=cs:=by
 conv=>rhs;rw[<-aY cs]
 exact au λd a=>p5 (lH h d a)
theorem Pk{α:Type}{sz:Nat}{f:α->List D}(b:∀a,(f a).length=sz):∀l:List α,chunks sz l.length (l.map f).flatten=l.map f
 | []=>rfl
 | a::l=>by simp only[aH,chunks,List.map_cons,aX];rw[aU (by rw[b];exact Nat.le_refl _),af (by rw[b];exact Nat.le_refl _),eD (by rw[b];exact Nat.le_refl _),bw (by rw[b];exact Nat.le_refl _),bp,Pk b l]
theorem agE{α:Type}{sz:Nat}{f:α->List D}(c:∀a,(f a).length=sz)(l:List α):(l.map f).flatten.length=l.length*sz:=by
 induction l with
 | nil=>simp
 | cons a l b=>simp only[List.map_cons,aX,aj,c,b,aH,cA];omega
theorem L6{a b:List D}:gw (a++b)=(gw a&&gw b):=by
 induction a with
 | nil=>rfl
 | cons d a c=>simp only[bQ,gw,c,Bool.and_assoc]
theorem acm{α:Type}{f:α->List D}(c:∀a,gw (f a)=true)(l:List α):gw (l.map f).flatten=true:=by
 induction l with
 | nil=>rfl
 | cons a l b=>simp only[List.map_cons,aX,L6,c,b];rfl
class Fl {α:Type} (f:α->List D) (sz:outParam Nat):Prop where
 len:∀a,(f a).length=sz
 cl:∀a,gw (f a)=true
instance:Fl f1 1:=⟨λ_=>by simp,λ_=>by simp[gw]⟩
instance:Fl fB 1:=⟨λ_=>by simp,λ_=>by simp[gw]⟩
instance:Fl fS 2:=⟨λ_=>by simp,λ_=>by simp[gw]⟩
instance:Fl fP 1:=⟨λ_=>by simp,λ_=>by simp[gw]⟩
instance:Fl fI 1:=⟨λ_=>by simp,λ_=>by simp[gw]⟩
instance:Fl Pos.cells 5:=⟨λ_=>rfl,λ_=>by simp⟩
instance:Fl Kind.cells 3:=⟨λ_=>rfl,λ_=>by simp⟩
instance:Fl Clause.cells 4:=⟨λ_=>rfl,λ_=>by simp⟩
section
variable{α:Type}{f:α->List D}{sz:Nat}
@[simp] theorem acg:cl f [] = []:=by rw[nX];rfl
@[simp] theorem AA(a b:List α):cl f a++cl f b=cl f (a++b):=by simp[nX]
theorem pL(l:List α)(a:α):cl f l++f a=cl f (l ++ [a]):=by simp[nX]
theorem mO(l:List α)(a:α):cl f (a::l)=f a++cl f l:=by simp[nX]
variable [F:Fl f sz]
include F
@[simp] theorem rh(l:List α):(cl f l).length=l.length*sz:=by rw[nX];exact agE F.len l
theorem xy:∀(l:List α) (n:Nat),(cl f l).take (n*sz)=cl f (l.take n)
 | [],n=>by simp
 | a::l,0=>by simp
 | a::l,n+1=>by rw[mO,List.take_succ_cons,mO,<-xy l n,cA,List.take_append,F.len,af (by rw[F.len];omega)];congr 2;omega
theorem uf:∀(l:List α) (n:Nat),(cl f l).drop (n*sz)=cl f (l.drop n)
 | [],n=>by simp
 | a::l,0=>by simp
 | a::l,n+1=>by rw[mO,List.drop_succ_cons,<-uf l n,cA,ff,F.len,bw (by rw[F.len];omega),bp];congr 1;omega
@[simp] theorem asc(l:List α):(cl f l).take (l.length*sz)=cl f l:=by rw[xy,dA]
@[simp] theorem ue(l:List α):gw (cl f l)=true:=by rw[nX];exact acm F.cl l
@[simp] theorem asa{ρ:Nat->Option Nat}{H:U}(l:List α):(cl f l).map (gd ρ H 40)=cl f l:=Tf (ue l)
@[simp] theorem xB{k:Nat}(l:List α):closed (.sl k (l.map f))=true:=by simp only[closed];exact C0 F.cl l
theorem U0(l:List α)(n j:Nat)(c:j<sz):(cl f l)[n*sz+j]? = (l[n]?).bind λa=>(f a)[j]? := by
 have h:(cl f l)[n*sz+j]? = ((cl f l).drop (n*sz))[j]? := by rw[aI]
 rw[h,uf]
 by_cases b:n<l.length
 .rw[bH b,mO,ah (by rw[F.len];exact c),List.getElem?_eq_getElem b];rfl
 .have d:l[n]? = none:=cj (fg b);rw[bw (fg b),d];simp
theorem ach(l:List α)(n:Nat)(a:α)(h:n<l.length):(cl f l).take (n*sz)++f a++(cl f l).drop (n*sz+sz)=cl f (l.take n++a::l.drop (n+1)):=by rw[xy,<-cA,uf,<-AA,mO,aJ]
end
@[simp] theorem arW(l:List Int)(n:Nat):(cl f1 l).take n=cl f1 (l.take n):=by simpa using xy (f:=f1) l n
@[simp] theorem arU(l:List Int)(n:Nat):(cl f1 l).drop n=cl f1 (l.drop n):=by simpa using uf (f:=f1) l n
@[simp] theorem arV(l:List Int)(n:Int):cl f1 l ++ [.i n]=cl f1 (l ++ [n]):=by rw[<-pL,C6]
@[simp] theorem arZ(l:List (List Int))(x:List Int):cl fI l ++ [dI x]=cl fI (l ++ [x]):=by rw[<-pL,aex]
@[simp] theorem ar3(l:List (List fO))(x:List fO):cl fP l ++ [ie x]=cl fP (l ++ [x]):=by rw[<-pL,aey]
@[simp] theorem ar5(l:List fO)(a b:Int):cl fS l ++ [.i a,.i b]=cl fS (l ++ [(a,b)]):=by rw[<-pL,AS]
@[simp] theorem ar4(l:List Pos)(a b c:List Int)(r q:Int):cl Pos.cells l ++ [dI a,dI b,dI c,.i r,.i q]=cl Pos.cells (l ++ [⟨a,b,c,r,q⟩]):=by rw[<-pL];rfl
@[simp] theorem awY(p:Pos):Pos.mk p.cs p.h0 p.h1 p.gD p.side=p:=rfl
@[simp] theorem avT{l:List Int}{n:Int}{P:D->Prop}:oA (cl f1 l)[n.toNat]? P .mk=(n.toNat<l.length/\P (.i (gt l n))):=by
 have h:=U0 (f:=f1) l n.toNat 0 (by omega);simp only[eP,cz]at h;rw[h]
 by_cases a:n.toNat<l.length
 .rw[List.getElem?_eq_getElem a];have e:gt l n=l[n.toNat]:=by unfold gt;rw[List.getD_eq_getElem?_getD,List.getElem?_eq_getElem a];rfl
  simp[a,e]
 .rw[cj (by omega)];simp[a]
@[simp] theorem ahk{α:Type}[Inhabited α]{f:α->List D}{sz:Nat}[F:Fl f sz]{l:List α}{t:TypeId}{n:Int}{P:D->Prop}(b:0<sz):oA (uE sz (n.toNat*sz) (some (t,cl f l))) P .mk=(n.toNat<l.length/\P (.agg (f (gt l n)))):=by
 simp only[uE,rh,<-cA];rw[BT,zW];have h:n.toNat.succ*sz<=l.length*sz↔n.toNat<l.length:=fh b;rw[h];refine propext ⟨λ⟨a,p⟩=>⟨a,?_⟩,λ⟨a,p⟩=>⟨a,?_⟩⟩
 .have e:gt l n=l[n.toNat]:=by unfold gt;rw[List.getD_eq_getElem?_getD,List.getElem?_eq_getElem a];rfl
  rw[uf,bH a,mO,aU (by rw[F.len];exact Nat.le_refl _),af (by rw[F.len];exact Nat.le_refl _),<-e]at p;exact p
 .have e:gt l n=l[n.toNat]:=by unfold gt;rw[List.getD_eq_getElem?_getD,List.getElem?_eq_getElem a];rfl
  rw[uf,bH a,mO,aU (by rw[F.len];exact Nat.le_refl _),af (by rw[F.len];exact Nat.le_refl _),<-e];exact p
def mG(ρ:Nat->Option Nat)(H:U)(k sz off n:Nat):Option (TypeId×List D)->D
 | some (_,cs)=>if (off+n)*sz<=cs.length then .sl sz (chunks sz n ((cs.drop (off*sz)).map (gd ρ H k)))else .any
 | none=>.any
@[simp] theorem aaz(H:U)(k:Nat)(ρ:Nat->Option Nat)(v g sz off n:Nat):Ic H k ρ v g sz off n none=mG ρ H k sz off n (rowAt H v g):=by unfold Ic mG;rfl
@[simp] theorem u6{α:Type}{f:α->List D}{sz:Nat}[F:Fl f sz]{ρ:Nat->Option Nat}{H:U}{k n:Nat}{t:TypeId}{l:List α}(h:n=l.length):mG ρ H (k+1) sz 0 n (some (t,cl f l)) = .sl sz (l.map f):=by subst h;unfold mG;dsimp only;rw[rh,if_pos (by simp),cQ,eO,Tf (ue l),nX,Pk F.len]
@[simp] theorem ati{ρ:Nat->Option Nat}{H:U}{k sz:Nat}{p:TypeId×List D}:mG ρ H k sz 0 0 (some p) = .sl sz []:=by unfold mG;simp[chunks]
@[simp] theorem ax8:D.sl 1 []=dI []:=by unfold dI;rfl
@[simp] theorem ax9:D.sl 2 []=ie []:=by unfold ie;rfl
@[simp] theorem atk{ρ:Nat->Option Nat}{H:U}{k:Nat}{t:TypeId}{a b c:List Int}{r q:Int}:mG ρ H (k+1) 5 0 1 (some (t,[dI a,dI b,dI c,.i r,.i q]))=gQ [⟨a,b,c,r,q⟩]:=by have h:=u6 (f:=Pos.cells) (ρ:=ρ) (H:=H) (k:=k) (t:=t) (l:=[⟨a,b,c,r,q⟩]) (n:=1) rfl;rw[nX]at h;unfold gQ;exact h
@[simp] theorem ayd(l:List Int):D.sl 1 (l.map f1)=dI l:=by unfold dI;rfl
@[simp] theorem ayg(l:List Pos):D.sl 5 (l.map Pos.cells)=gQ l:=by unfold gQ;rfl
@[simp] theorem ayf(l:List fO):D.sl 2 (l.map fS)=ie l:=by unfold ie;rfl
def uL(ρ:Nat->Option Nat)(H:U):Option Ob->Ob
 | some o=>pb ρ H o
 | none=>.dead
@[simp] theorem axN(ρ:Nat->Option Nat)(H:U)(t g:Nat)(cs:List D):uL ρ H (some (.row t g cs)) = .row t g (cs.map (gd ρ H 40)):=rfl
@[simp] theorem axK(ρ:Nat->Option Nat)(H:U)(kk:KK)(es:List (Value×D)):uL ρ H (some (.map kk es)) = .map kk (es.map λx=>(x.1,gd ρ H 40 x.2)):=rfl
@[simp] theorem axI(ρ:Nat->Option Nat)(H:U):uL ρ H (some .dead) = .dead:=rfl
@[simp] theorem axJ(ρ:Nat->Option Nat)(H:U):uL ρ H (some .jv) = .jv:=rfl
@[simp] theorem axM(ρ:Nat->Option Nat)(H:U)(rf:Nat)(e:Env)(st:p9):uL ρ H (some (.ia rf e st)) = .ia rf (e.map λx=>(x.1,gd ρ H 40 x.2)) st:=rfl
@[simp] theorem avG:BR []=false:=(rfl)
@[simp] theorem avF(k:Nat)(l:List Nat):BR (k::l)=decide (k=9999):=by
 show Nat.beq k 9999=_
 cases a:Nat.beq k 9999 with
 | true=>exact(decide_eq_true (cd a)).symm
 | false=>exact(decide_eq_false (Nat.ne_of_beq_eq_false a)).symm
@[simp] theorem Pw{n:Nat}{l:List Nat}{s:St}:cut n (9999::l) s = { s with env:=forget (9999::l) s.env }:=by unfold cut;dsimp only;rw[if_pos (.inr rfl)]
def Px(env:Env)(H:U)(m:List Nat)(r:Bool)(ks:ny):St:={ env:=env.map λp=>(p.1,gd (iB ks) H 40 p.2),H:=ks.map λp=>if p.2 then uL (iB ks) H H[p.1]? else .dead,marks:=m.map λv=>(iB ks v).getD v,iq:=r }
def SY(n:Nat)(env:Env)(H:U)(m:List Nat):List Nat:=dedup (((env.map λp=>ji n p.2).flatten++((H.take n).map (oG n)).flatten++m.filter (n<=·)).filter (· < H.length))
@[simp low] theorem s7{n:Nat}{live:List Nat}{env:Env}{H:U}{m:List Nat}{r:Bool}(h:¬H.length<=n)(a:BR live=false):cut n live { env:=env,H:=H,marks:=m,iq:=r }=Px (forget live env) H m r (iV n (SY n (forget live env) H m)):=by unfold cut Px SY;dsimp only;rw[if_neg (by rw[a];simpa using h)];rfl
@[simp] theorem at4(K:List Nat):iV 0 K=K.map λv=>(v,true):=rfl
@[simp] theorem at5(K:List Nat):iV 1 K=(0,true)::K.map λv=>(v,true):=rfl
@[simp] theorem aui(K:List Nat):iV 2 K=(0,true)::(1,true)::K.map λv=>(v,true):=rfl
@[simp] theorem aun(K:List Nat):iV 3 K=(0,true)::(1,true)::(2,true)::K.map λv=>(v,true):=rfl
@[simp] theorem auo(K:List Nat):iV 4 K=(0,true)::(1,true)::(2,true)::(3,true)::K.map λv=>(v,true):=rfl
def z'(i:Nat):ny->Nat->Option Nat
 | [],_=>none
 | p::r,v=>if p.2&&p.1 == v then some i else z' (i+1) r v
theorem amF(ks:ny)(v:Nat):iB ks v=z' 0 ks v:=by
 have key:∀(ks:ny) (i:Nat),z' i ks v=(ks.findIdx? (λp=>p.2&&p.1 == v)).map (· + i):=by
  intro ks
  induction ks with
  | nil=>intro i;rfl
  | cons p r a=>
   intro i;rw[List.findIdx?_cons];unfold z';split
   .simp
   .rw[a,Option.map_map];congr 1;funext x;simp;omega
 rw[key];simp[iB]
@[simp] theorem axv(v:Nat):iB [] v=none:=rfl
@[simp] theorem axu(p:Nat×Bool)(r:ny)(v:Nat):iB (p::r) v=if (p.2&&p.1 == v)=true then some 0 else z' 1 r v:=by rw[amF];rfl
@[simp] theorem axt(i v:Nat):z' i [] v=none:=rfl
@[simp] theorem axr(i:Nat)(p:Nat×Bool)(r:ny)(v:Nat):z' i (p::r) v=if (p.2&&p.1 == v)=true then some i else z' (i+1) r v:=rfl
@[simp] theorem asI(env:Env)(H:U)(m:List Nat)(r:Bool)(ks:ny):Px env H m r ks = { env:=env.map λp=>(p.1,gd (iB ks) H 40 p.2),H:=ks.map λp=>if p.2 then uL (iB ks) H H[p.1]? else .dead,marks:=m.map λv=>(iB ks v).getD v,iq:=r }:=rfl
@[simp] theorem axa(n:Nat)(env:Env)(H:U)(m:List Nat):SY n env H m=dedup (((env.map λp=>ji n p.2).flatten++((H.take n).map (oG n)).flatten++m.filter (n<=·)).filter (· < H.length)):=rfl
@[simp] theorem asK:dedup [] = []:=rfl
@[simp] theorem asJ(x:Nat)(r:List Nat):dedup (x::r)=if x∈r then dedup r else x::dedup r:=rfl
theorem OJ(n:Nat){d:D}(h:closed d=true):ji n d = []:=by cases d<;>first|rfl|cases h
@[simp] theorem ayK(n:Nat)(l:List Int):ji n (dI l) = []:=rfl
@[simp] theorem ayP(n:Nat)(l:List Pos):ji n (gQ l) = []:=rfl
@[simp] theorem ayN(n:Nat)(p:Pos):ji n (dP p) = []:=rfl
@[simp] theorem ayO(n:Nat)(l:List fO):ji n (ie l) = []:=rfl
@[simp] theorem ayJ(n:Nat)(g:fY):ji n (dG g) = []:=rfl
@[simp] theorem ayH(n:Nat)(g:fY):ji n g.jB = []:=rfl
@[simp] theorem ayL{α:Type}(n sz:Nat)(f:α->List D)(l:List α):ji n (dN sz f l) = []:=by cases l<;>rfl
@[simp] theorem ay1(n:Nat)(v:Value):ji n (.val v) = []:=rfl
@[simp] theorem ayG(n:Nat):ji n .any = []:=rfl
@[simp] theorem ayS(n:Nat):ji n .fX = []:=rfl
@[simp] theorem ayF(n:Nat)(cs:List D):ji n (.agg cs) = []:=rfl
@[simp] theorem ay0(n:Nat)(cs:List D):ji n (.tup cs) = []:=rfl
@[simp] theorem ayU(n:Nat)(cs:List D):ji n (.gi cs) = []:=rfl
@[simp] theorem ayZ(n sz:Nat)(es:List (List D)):ji n (.sl sz es) = []:=rfl
@[simp] theorem ayT(n:Nat)(f:Fn)(a b:List D):ji n (.fn f a b) = []:=rfl
@[simp] theorem ayX(n v g sz off len:Nat):ji n (.fM v g sz off len)=if n<=v then [v]else []:=rfl
@[simp] theorem ayY(n v g off:Nat):ji n (.ptr v g off)=if n<=v then [v]else []:=rfl
@[simp] theorem ayW(n v:Nat):ji n (.gx v)=if n<=v then [v]else []:=rfl
@[simp] theorem ay2(n v:Nat):ji n (.iP v)=if n<=v then [v]else []:=rfl
theorem amx(n:Nat){cs:List D}(h:gw cs=true):(cs.map (ji n)).flatten = []:=by
 induction cs with
 | nil=>rfl
 | cons d r a=>
  simp only[gw,Bool.and_eq_true]at h;simp[OJ n h.1,a h.2]
@[simp] theorem ar9(n:Nat){α:Type}{f:α->List D}{sz:Nat}[F:Fl f sz](l:List α):((cl f l).map (ji n)).flatten = []:=amx n (ue l)
@[simp] theorem awk(n t g:Nat)(cs:List D):oG n (.row t g cs)=(cs.map (ji n)).flatten:=rfl
@[simp] theorem awh(n:Nat)(kk:KK)(es:List (Value×D)):oG n (.map kk es)=(es.map λx=>ji n x.2).flatten:=rfl
@[simp] theorem awf(n:Nat):oG n .dead = []:=rfl
theorem R5{H:U}{d:D}(h:H≠[]):leave 0 0 H d=(gd (λ_=>none) H 40 d,[]):=by unfold leave;rw[if_neg (by rintro(e|e);exact h (ay.1 (by omega));cases e)];rfl
@[simp] theorem auT{o:Ob}{r:U}{d:D}:leave 0 0 (o::r) d=(gd (λ_=>none) (o::r) 40 d,[]):=R5 (by simp)
attribute [simp] and_assoc Kind.cells Clause.cells dP Pos.cells dG fY.cells fY.jB
def kH(T:il)(n:Nat)(live:List Nat)(a:IR)(s:St)(K:iQ)(_:Tag (live,a,s,K)):Prop:=Ev T (.loop n live (lr a) s) (PO K)
def NL(T:il)(n:Nat)(live:List Nat)(a:IR)(K:iQ):iQ:=λo=>match o with
 | .norm s=>kH T n live a (cut n live s) K .mk
 | o=>K o
def aal(T:il)(v rf:Nat)(b:IR)(dst:Option Nat)(s:St)(K:St->Prop):iQ:=λo=>match o with
 | .norm s1=>∃a,s1.H[v]? = some (.ia rf a .ready)/\XC T b { s1 with H:=s1.H.set v (.ia rf a .busy) } (BZ v rf dst s K)
 | _=>False
theorem qc.r{T:il}{v rf:Nat}{args:List D}{dst:Option Nat}{s:St}{K:St->Prop}{env0:Env}{Rd:qb}(e:s.H[v]? = some (.ia rf env0 .ready))(i:T.round rf=some Rd)(hl:args.length=Rd.params.length)
  (c b:IR) (g:lr c=Rd.a) (f:lr b=Rd.b)
  (h:XC T c { env:=tR Rd.params args env0,H:=s.H,iq:=true } (aal T v rf b dst s K)):qc T v args dst s K .mk:=by
 refine⟨rf,env0,Rd,e,i,hl,?_⟩;rw[<-g];refine(XC.wc h).mono λo a=>?_
 cases o with
 | norm s1=>
  obtain⟨d,h1,j⟩:=a;exact⟨s1,d,rfl,h1,by rw[<-f];exact XC.wc j⟩
 | exit=>exact a.elim
 | ret=>exact a.elim
def amK(rf:Nat)(s:St)(K:iQ):D->U->Prop:=λ_ H'=>∃env st,H'[s.H.length+1]? = some (.ia rf env st)/\oA (z6 { s with H:=H'.set (s.H.length+1) .dead,marks:=s.H.length::s.marks } st) K .mk
theorem sZ.r{T:il}{rf:Nat}{live:List Nat}{x:X}{s:St}{K:iQ}{f:FuncId}{first cap:List D}{fn:je}(b:s.iq=false)(a:ev s.env.get x = .fn (.func f) first cap)(e:T.fn f=some fn)(c:fn.full=true)
  (h:Wf T f (first ++ [.iP (s.H.length+1)]++cap) (s.H ++ [.jv,.ia rf (forget live s.env) .ready]) (amK rf s K)):sZ T rf live x s K .mk:=
 Ev.nW b a e c h λd H' ⟨d',H2,g,env,st,h1,o,j,i⟩=>by cases g;exact⟨env,st,o,h1,j,o,rfl,i⟩
section
variable{T:il}{n:Nat}{live:List Nat}{a:IR}{s:St}{K:iQ}{id:Nat}
theorem fZ.un(h:kH T s.H.length live a { s with env:=forget live s.env } K .mk):fZ T live a s K .mk:=Ev.loop h
theorem kH.u(h:XC T a s (NL T n live a K)):kH T n live a s K .mk:=by
 refine Ev.zR (XC.wc h) (λb ⟨o,e,k⟩=>?_) λo ⟨o',e,k⟩ hs=>?_
 .cases e;exact k
 .cases e
  cases o with
  | norm=>cases hs
  | exit=>exact⟨_,rfl,k⟩
  | ret=>exact⟨_,rfl,k⟩
@[simp ↓] theorem avm:NL T n live a K (.norm s)=kH T n live a (cut n live s) K .mk:=(rfl)
@[simp ↓] theorem avl:NL T n live a K (.exit id s)=K (.exit id s):=(rfl)
@[simp ↓] theorem avn:NL T n live a K (.ret s)=K (.ret s):=(rfl)
end
theorem Xk{x b:Bool}{P Q:Prop}(k:cond b P Q)(h:x=b:=by first|(show _=true;first|assumption|exact decide_eq_true (by assumption))|(show _=false;first|assumption|exact decide_eq_false (by assumption))):X2 x P Q .mk:=by subst h;cases x<;>simpa using k
class PB (x:Bool) (I:outParam (Prop->Prop)) (q:outParam Prop):Prop where
 t:∀ {P:Prop},I P->x=true->P
 f:x=false->q
instance(priority:=low){x:Bool}:PB x (λP=>x=true->P) (x=false):=⟨λh e=>h e,id⟩
instance{p:Prop}[Decidable p]:PB (decide p) (λP=>p->P) (¬p):=⟨λh e=>h (of_decide_eq_true e),of_decide_eq_false⟩
instance{p q:Prop}[Decidable p][Decidable q]:PB (decide p&&decide q) (λP=>p->q->P) (¬(p/\q)):=⟨λh e=>by
 rw[<-dF]at e
 exact h (of_decide_eq_true e).1 (of_decide_eq_true e).2,λe=>by rw[<-dF]at e;exact of_decide_eq_false e⟩
instance{p q:Prop}[Decidable p][Decidable q]:PB (decide p||decide q) (λP=>p\/q->P) (¬(p\/q)):=⟨λh e=>by
 rw[<-fD]at e
 exact h (of_decide_eq_true e),λe=>by rw[<-fD]at e;exact of_decide_eq_false e⟩
theorem Xs{x:Bool}{I:Prop->Prop}{q P Q:Prop}[c:PB x I q](h:I P)(k:q->Q):X2 x P Q .mk:=⟨c.t h,λe=>k (c.f e)⟩
theorem Yc{T:il}{f:FuncId}{args:List D}{dst:Option Nat}{s:St}{K:St->Prop}{fn:je}{x:D}(h:Wf T f args [] λd H'=>d=x/\H' = [])(k:K { s with env:=put s.env dst x })
  (c:T.fn f=some fn:=by exact rfl) (b:fn.full=false:=by exact rfl) (e:gw args=true:=by simp) (a:closed x=true:=by simp):gj T f args dst s K .mk:=gj.c c b h e a k
theorem Yt{T:il}{f:FuncId}{args:List D}{R:List Fp}{dst:Option Nat}{s:St}{Q:Rc->St->Prop}{fn:je}{x:D}(h:Wf T f args [] λd H'=>d=x/\H' = [])(k:Q ⟨R,[]⟩ { s with env:=put s.env dst x })
  (c:T.fn f=some fn:=by exact rfl) (b:fn.full=false:=by exact rfl) (e:gw args=true:=by simp) (a:closed x=true:=by simp):iW T f args R dst s Q .mk:=iW.c c b h e a k
theorem Yr{T:il}{f:FuncId}{args oq:List D}{dst:Option Nat}{s:St}{K:St->Prop}{fn:je}{x:D}(h:Wf T f oq [] λd H'=>d=x/\H' = [])(k:K { s with env:=put s.env dst x })
  (e:T.fn f=some fn:=by exact rfl) (c:fn.full=false:=by exact rfl) (hs:args.map (gd (λ_=>none) s.H 40)=oq:=by simp) (b:flat x=true:=by simp[flat]) (a:closed x=true:=by simp):gj T f args dst s K .mk:=gj.r e c h hs b a k
theorem Yg{T:il}{f:FuncId}{args:List D}{H:U}(fn:je){K:D->U->Prop}(h:XC T fn.body { env:=tJ args,H:=H } (y9 fn.results fn.own H.length K))
  (b:T.fn f=some fn:=by exact rfl) (hl:args.length<=fn.ntmps:=by exact cW rfl) (a:tL fn.body=true:=by exact rfl):Wf T f args H K:=Wf.x b hl h a
theorem Yz{T:il}{f:FuncId}{args:List D}{H:U}(fn:je)(c:IR){K:D->U->Prop}(h:XC T c { env:=tJ args,H:=H } (y9 fn.results fn.own H.length K))
  (a:T.fn f=some fn:=by exact rfl) (hl:args.length<=fn.ntmps:=by exact cW rfl) (b:lr c=fn.body:=by simp only[Aj,Ak];exact om rfl):Wf T f args H K:=Wf.xz fn.own c a hl b h
structure Bx(p:Prop):Prop where
 x:p
theorem mE{P:Prop}(h:P:=by(with_reducible repeat' first|refine Xk ?_<;>try simp|refine Xs ?_ ?_<;>intro h<;>(try intro a)<;>(try simp[h])<;>try omega|refine Xg ?_|omega)):P:=h
theorem fQ{P Q:Prop}(k:Q)(h:Bx Q->P:=by intro k;(with_reducible repeat' first|refine Xk ?_<;>try simp|refine Xs ?_ ?_<;>intro h<;>(try intro a)<;>(try simp[h])<;>try omega|refine Xg ?_|omega);exact k.x):P:=h ⟨k⟩
theorem jU{P Q R:Prop}(k:Q)(l:R)(h:Bx Q->Bx R->P:=by intro k l;(with_reducible repeat' first|refine Xk ?_<;>try simp|refine Xs ?_ ?_<;>intro h<;>(try intro a)<;>(try simp[h])<;>try omega|refine Xg ?_|omega);(revert h;exact k.x);(revert h;exact l.x)):P:=h ⟨k⟩ ⟨l⟩
theorem jH{A P Q:Prop}(a:A)(k:Q)(h:A->Bx Q->P:=by intro a k;(with_reducible repeat' first|refine Xk ?_<;>try simp[a]|refine Xs ?_ ?_<;>intro h<;>(try intro b)<;>(try simp[h,a])<;>try omega|refine Xg ?_|omega);exact k.x):P:=h a ⟨k⟩
theorem LD{A P Q R:Prop}(a:A)(k:Q)(l:R)(h:A->Bx Q->Bx R->P:=by intro a k l;(with_reducible repeat' first|refine Xk ?_<;>try simp[a]|refine Xs ?_ ?_<;>intro h<;>(try intro b)<;>(try simp[h,a])<;>try omega|refine Xg ?_|omega);(revert h;exact k.x);(revert h;exact l.x)):P:=h a ⟨k⟩ ⟨l⟩
theorem kM{A B P Q:Prop}(b:A)(a:B)(k:Q)(h:A->B->Bx Q->P:=by intro b a k;(with_reducible repeat' first|refine Xk ?_<;>try simp[b,a]|refine Xs ?_ ?_<;>intro h<;>(try intro c)<;>(try simp[h,b,a])<;>try omega|refine Xg ?_|omega);exact k.x):P:=h b a ⟨k⟩
theorem abm{A B C P:Prop}(c:A)(b:B)(a:C)(h:A->B->C->P:=by intro c b a;(with_reducible repeat' first|refine Xk ?_<;>try simp[c,b,a]|refine Xs ?_ ?_<;>intro h<;>(try intro d)<;>(try simp[h,c,b,a])<;>try omega|refine Xg ?_|omega)):P:=h c b a
theorem qJ{A B C P Q:Prop}(c:A)(b:B)(a:C)(k:Q)(h:A->B->C->Bx Q->P:=by intro c b a k;(with_reducible repeat' first|refine Xk ?_<;>try simp[c,b,a]|refine Xs ?_ ?_<;>intro h<;>(try intro d)<;>(try simp[h,c,b,a])<;>try omega|refine Xg ?_|omega);exact k.x):P:=h c b a ⟨k⟩
theorem abn{A B C P Q R:Prop}(c:A)(b:B)(a:C)(k:Q)(l:R)(h:A->B->C->Bx Q->Bx R->P:=by intro c b a k l;(with_reducible repeat' first|refine Xk ?_<;>try simp[c,b,a]|refine Xs ?_ ?_<;>intro h<;>(try intro d)<;>(try simp[h,c,b,a])<;>try omega|refine Xg ?_|omega);(revert h;exact k.x);(revert h;exact l.x)):P:=h c b a ⟨k⟩ ⟨l⟩
theorem CN{A B C D P Q:Prop}(d:A)(c:B)(b:C)(a:D)(k:Q)(h:A->B->C->D->Bx Q->P:=by intro d c b a k;(with_reducible repeat' first|refine Xk ?_<;>try simp[d,c,b,a]|refine Xs ?_ ?_<;>intro h<;>(try intro e)<;>(try simp[h,d,c,b,a])<;>try omega|refine Xg ?_|omega);exact k.x):P:=h d c b a ⟨k⟩
