/- Part 10 of DisputeWorkers. -/
import Derived.Test.YtmehofoficaelaaGreatDoorW09
set_option linter.all false
namespace Go.AL
open Go
universe u
inductive Tag{α:Sort u}(a:α):Type
 | mk
def oA{α:Type}(x:Option α)(P:α->Prop)(_:Tag P):Prop:=∃a,x=some a/\P a
@[simp] theorem Aw{α:Type}(a:α)(P:α->Prop):oA (some a) P .mk=P a:=by simp[oA]
@[simp] theorem ZN{α:Type}(P:α->Prop):oA none P .mk=False:=by simp[oA]
@[simp high] theorem Cl{α:Type}{c:Prop}[Decidable c](x:Option α)(P:α->Prop):oA (if c then x else none) P .mk=(c/\oA x P .mk):=by by_cases h:c<;>simp[h]
@[simp] theorem awO{α:Type}{c:Prop}[Decidable c](x y:Option α)(P:α->Prop):oA (if c then x else y) P .mk=((c->oA x P .mk)/\(¬c->oA y P .mk)):=by by_cases h:c<;>simp[h]
@[simp] theorem awP(x:Option D)(P:D×Dl->Prop):oA (lift x) P .mk=oA x (λd=>P (d,.no)) .mk:=by cases x<;>simp[lift]
@[simp] theorem awC{α b:Type}(x:Option α)(f:α->Option b)(P:b->Prop):oA (x.bind f) P .mk=oA x (λa=>oA (f a) P .mk) .mk:=by cases x<;>simp
def gB:D->Bool->Option Bool
 | .val (.bool b),want=>some (b == want)
 | .val (.tuple _),_=>some false
 | _,_=>none
@[simp] theorem auf(a:Bool):gB (.val undef) a=some false:=rfl
@[simp] theorem aue(x:Bool):gB (.b x) true=some x:=by cases x<;>rfl
@[simp] theorem aud(x:Bool):gB (.b x) false=some (!x):=by cases x<;>rfl
@[simp] theorem aur(f:gP):guardOf f none=some true:=rfl
@[simp] theorem aus(f:gP)(j:Nat)(w:Bool):guardOf f (some (j,w))=gB (f j) w:=by show(match f j with | .val (.bool b)=>some (b == w) | .val (.tuple _)=>some false|_=>none)=gB (f j) w;unfold gB;split<;>simp_all
@[simp] theorem atC(f:gP)(k:Nat):ev f (.t k)=f k:=rfl
@[simp] theorem atB(f:gP)(d:D):ev f (.c d)=d:=rfl
@[simp] theorem axO(env:Env)(k:Nat)(d:D):put env (some k) d=(k,d)::env:=rfl
@[simp] theorem axN(env:Env)(d:D):put env none d=env:=rfl
@[simp] theorem arl(H:U)(al:Al):Dl.no.app H al=H:=rfl
@[simp] theorem ark(H:U)(al:Al)(ob:Ob):(Dl.new ob).app H al=al.2 ob:=rfl
@[simp] theorem arn(H:U)(al:Al)(v:Nat)(ob:Ob):(Dl.obj v ob).app H al=H.set v ob:=rfl
def setCells(H:U)(v o:Nat)(xs:List D):Option Ob->U
 | some (.row t g cs)=>H.set v (.row t g (cs.take o++xs++cs.drop (o+xs.length)))
 | _=>H
@[simp] theorem arh(H:U)(al:Al)(v o:Nat)(xs:List D):(Dl.cells v o xs).app H al=setCells H v o xs H[v]? := by show(match H[v]? with|some (.row t g cs)=>H.set v (.row t g (cs.take o++xs++cs.drop (o+xs.length)))|_=>H)=_;unfold setCells;split<;>simp_all
@[simp] theorem ayl(H:U)(v o:Nat)(xs:List D)(t g:Nat)(cs:List D):setCells H v o xs (some (.row t g cs))=H.set v (.row t g (cs.take o++xs++cs.drop (o+xs.length))):=rfl
def yS(k:IntKind)(a b:Int):Int:=k.wrap (a*2 ^ (min b.toNat k.bits))
def my(k:IntKind)(a b:Int):Int:=a.fdiv (2 ^ (min b.toNat k.bits))
section
variable{k:IntKind}{a b:Int}
@[simp] theorem arF:kW .add (.val (.int k a)) (.val (.int k b))=jU .add k a b:=by simp[kW,p7]
@[simp] theorem arV:kW .sub (.val (.int k a)) (.val (.int k b))=jU .sub k a b:=by simp[kW,p7]
@[simp] theorem arN:kW .mul (.val (.int k a)) (.val (.int k b))=jU .mul k a b:=by simp[kW,p7]
@[simp] theorem arQ:kW .quo (.val (.int k a)) (.val (.int k b))=jU .quo k a b:=by simp[kW,p7]
@[simp] theorem arR:kW .rem (.val (.int k a)) (.val (.int k b))=jU .rem k a b:=by simp[kW,p7]
@[simp] theorem arG:kW .and (.val (.int k a)) (.val (.int k b))=some (.val (.int k (bits .and k a b))):=by simp[kW,p7,jU]
@[simp] theorem arP:kW .or (.val (.int k a)) (.val (.int k b))=some (.val (.int k (bits .or k a b))):=by simp[kW,p7,jU]
@[simp] theorem arW:kW .xor (.val (.int k a)) (.val (.int k b))=some (.val (.int k (bits .xor k a b))):=by simp[kW,p7,jU]
@[simp] theorem arH:kW .andNot (.val (.int k a)) (.val (.int k b))=some (.val (.int k (bits .andNot k a b))):=by simp[kW,p7,jU]
@[simp] theorem arI:kW .eql (.val (.int k a)) (.val (.int k b))=some (.b (decide (a=b))):=by simp[kW,p7,jU,BEq.beq]
@[simp] theorem arO:kW .neq (.val (.int k a)) (.val (.int k b))=some (.b (!decide (a=b))):=by simp[kW,p7,jU,bne,BEq.beq]
@[simp] theorem arM:kW .lss (.val (.int k a)) (.val (.int k b))=some (.b (decide (a<b))):=by simp[kW,p7,jU]
@[simp] theorem arL:kW .leq (.val (.int k a)) (.val (.int k b))=some (.b (decide (a<=b))):=by simp[kW,p7,jU]
@[simp] theorem arK:kW .gtr (.val (.int k a)) (.val (.int k b))=some (.b (decide (a>b))):=by simp[kW,p7,jU]
@[simp] theorem arJ:kW .geq (.val (.int k a)) (.val (.int k b))=some (.b (decide (a>=b))):=by simp[kW,p7,jU]
@[simp] theorem arS{k2:IntKind}:kW .shl (.val (.int k a)) (.val (.int k2 b))=if 0<=b then some (.val (.int k (yS k a b)))else none:=rfl
@[simp] theorem arT{k2:IntKind}:kW .shr (.val (.int k a)) (.val (.int k2 b))=if 0<=b then some (.val (.int k (my k a b)))else none:=rfl
@[simp] theorem arU(op:BinOp)(s t:ByteArray):kW op (.val (.string s)) (.val (.string t))=E5 op s t:=rfl
@[simp] theorem azT(x:Bool):E9 .not (.b x)=some (.b !x):=rfl
@[simp] theorem azS(n:Int):E9 .neg (.i n)=if oq (-n)then some (.i (-n))else none:=rfl
@[simp] theorem atp(b:IntKind):MQ b (.val (.int k a))=some (.val (.int b (b.wrap a))):=rfl
end
@[simp] theorem atI(off v g o:Nat):Gv off (.ptr v g o)=some (.ptr v g (o+off)):=rfl
@[simp] theorem atH(off:Nat)(cs:List D):Gv off (.gu cs)=some (.gu (cs.drop off)):=rfl
@[simp] theorem atJ(off n:Nat)(cs:List D):Bk off n true (.agg cs)=if off+n<=cs.length then some (.agg ((cs.drop off).take n))else none:=rfl
@[simp] theorem atL(off n:Nat)(cs:List D):Bk off n false (.agg cs)=cs[off]? := rfl
@[simp] theorem atD(ds:List D)(i:Nat):Na (.tup ds) i=ds[i]? := rfl
@[simp] theorem awl(v g o:Nat):Ci (.ptr v g o)=some (.ptr v g o):=rfl
@[simp] theorem awk(cs:List D):Ci (.gu cs)=some (.gu cs):=rfl
@[simp] theorem awj(f:FuncId)(a b:List D):Ci (.fn (.func f) a b)=some (.fn (.func f) a b):=rfl
@[simp] theorem awm(v:Nat):Ci (.iT v)=some (.iT v):=rfl
def rowOf(k:Nat):Option Ob->Option (TypeId×List D)
 | some (.row t g cs)=>if g=k then some (t,cs)else none
 | _=>none
@[simp] theorem anA(H:U)(v k:Nat):rowAt H v k=rowOf k H[v]? := by unfold rowAt rowOf;split<;>simp_all
@[simp] theorem ayk(k:Nat)(t:TypeId)(g:Nat)(cs:List D):rowOf k (some (.row t g cs))=if g=k then some (t,cs)else none:=rfl
@[simp] theorem avn(v g o:Nat)(H:U):xm (.ptr v g o) H=(rowAt H v g).bind λp=>p.2[o]? := by show(match rowAt H v g with|some (_,cs)=>cs[o]? | none=>none)=_;cases rowAt H v g<;>rfl
@[simp] theorem avm(cs:List D)(H:U):xm (.gu cs) H=cs[0]? := rfl
def uZ(n o:Nat):Option (TypeId×List D)->Option D
 | some p=>if o+n<=p.2.length then some (.agg ((p.2.drop o).take n))else none
 | none=>none
@[simp] theorem avu(n o:Nat):uZ n o none=none:=rfl
@[simp low] theorem avv(n o:Nat)(p:TypeId×List D):uZ n o (some p)=if o+n<=p.2.length then some (.agg ((p.2.drop o).take n))else none:=rfl
@[simp] theorem avp(n v g o:Nat)(H:U):wg n (.ptr v g o) H=uZ n o (rowAt H v g):=by show(match rowAt H v g with|some (_,cs)=>if o+n<=cs.length then some (D.agg ((cs.drop o).take n))else none|none=>none)=_;cases rowAt H v g<;>rfl
@[simp] theorem avo(n:Nat)(cs:List D)(H:U):wg n (.gu cs) H=if n<=cs.length then some (.agg (cs.take n))else none:=rfl
@[simp] theorem azm(v g o:Nat)(x:D)(H:U):CM (.ptr v g o) x H=(rowAt H v g).bind λp=>if o<p.2.length/\one x=true then some (.any,.cells v o [x])else none:=by show(match rowAt H v g with|some (_,cs)=>if o<cs.length/\one x=true then some (D.any,Dl.cells v o [x])else none|none=>none)=_;cases rowAt H v g<;>rfl
@[simp] theorem azn(n v g o:Nat)(xs:List D)(H:U):CP n (.ptr v g o) (.agg xs) H=(rowAt H v g).bind λp=>if xs.length=n/\o+n<=p.2.length then some (.any,.cells v o xs)else none:=by show(match rowAt H v g with|some (_,cs)=>if xs.length=n/\o+n<=cs.length then some (D.any,Dl.cells v o xs)else none|none=>none)=_;cases rowAt H v g<;>rfl
@[simp] theorem ar2(t:TypeId)(cs:List D)(n:Nat):rK t (.agg cs) n=some (.ptr n 0 0,.new (.row t 0 cs)):=rfl
@[simp] theorem asl(cs:List D):cellsOf (.agg cs)=some cs:=rfl
@[simp] theorem asx(k:IntKind)(n:Int):cellsOf (.val (.int k n))=some [.val (.int k n)]:=rfl
@[simp] theorem asm(b:Bool):cellsOf (.b b)=some [.b b]:=rfl
@[simp] theorem asC(b:ByteArray):cellsOf (.val (.string b))=some [.val (.string b)]:=rfl
@[simp] theorem asB(sz:Nat)(es:List (List D)):cellsOf (.sl sz es)=some [.sl sz es]:=rfl
@[simp] theorem aso(l:List Int):cellsOf (dI l)=some [dI l]:=rfl
@[simp] theorem asr(l:List Pos):cellsOf (gZ l)=some [gZ l]:=rfl
@[simp] theorem asq(l:List fZ):cellsOf (gY l)=some [gY l]:=rfl
@[simp] theorem asp{α:Type}(sz:Nat)(f:α->List D)(l:List α):cellsOf (dN sz f l)=some [dN sz f l]:=by cases l<;>rfl
@[simp] theorem asu:cellsOf .gg=some [.gg]:=rfl
@[simp] theorem asz(v g sz off n:Nat):cellsOf (.fY v g sz off n)=some [.fY v g sz off n]:=rfl
@[simp] theorem asA(v g o:Nat):cellsOf (.ptr v g o)=some [.ptr v g o]:=rfl
@[simp] theorem asw(cs:List D):cellsOf (.gu cs)=some [.gu cs]:=rfl
@[simp] theorem asy(v:Nat):cellsOf (.gD v)=some [.gD v]:=rfl
@[simp] theorem asv(f:Fn)(a b:List D):cellsOf (.fn f a b)=some [.fn f a b]:=rfl
@[simp] theorem axr(k:IntKind)(n:Int):one (.val (.int k n))=true:=rfl
@[simp] theorem axi(b:Bool):one (.b b)=true:=rfl
@[simp] theorem axx(b:ByteArray):one (.val (.string b))=true:=rfl
@[simp] theorem axw(sz:Nat)(es:List (List D)):one (.sl sz es)=true:=rfl
@[simp] theorem axk(l:List Int):one (dI l)=true:=rfl
@[simp] theorem axm(l:List Pos):one (gZ l)=true:=rfl
@[simp] theorem axl(l:List fZ):one (gY l)=true:=rfl
@[simp] theorem axo:one .gg=true:=rfl
@[simp] theorem axu(v g sz off n:Nat):one (.fY v g sz off n)=true:=rfl
@[simp] theorem axv(v g o:Nat):one (.ptr v g o)=true:=rfl
@[simp] theorem axq(cs:List D):one (.gu cs)=true:=rfl
@[simp] theorem axt(v:Nat):one (.gD v)=true:=rfl
@[simp] theorem axp(f:Fn)(a b:List D):one (.fn f a b)=true:=rfl
@[simp] theorem asc(f:gP)(z:List D)(ps:List (Nat×Nat×X)):Dq f z ps=(partsOf f ps).bind λl=>(lay l z).bind λcs=>some (D.agg cs):=by
 unfold Dq;cases partsOf f ps with
 | none=>rfl
 | some l=>simp only[Option.bind_some];cases lay l z<;>rfl
@[simp] theorem asb(f:gP)(t sz:Nat)(z:List D)(m:Nat)(ps:List (Nat×X))(n:Nat):zn f t sz z m ps n=(partsOf f (ps.map λp=>(p.1*sz,sz,p.2))).bind λl=>(lay l (List.replicate m z).flatten).bind λcs=>some (.fY n 0 sz 0 m,.new (.row t 0 cs)):=by
 unfold zn;cases partsOf f (ps.map λp=>(p.1*sz,sz,p.2))with
 | none=>rfl
 | some l=>simp only[Option.bind_some];cases lay l (List.replicate m z).flatten<;>rfl
@[simp] theorem axF(f:gP):partsOf f []=some []:=rfl
@[simp] theorem axE(f:gP)(o n:Nat)(x:X)(r:List (Nat×Nat×X)):partsOf f ((o,n,x)::r)=(cellsOf (ev f x)).bind λcs=>(partsOf f r).bind λl=>some ((o,n,cs)::l):=by show(match cellsOf (ev f x),partsOf f r with|some cs,some l=>some ((o,n,cs)::l)|_,_=>none)=_;cases cellsOf (ev f x)<;>cases partsOf f r<;>rfl
@[simp] theorem agz(vs:List Value)(k:IntKind)(n:Int):mH 1 (.l4 vs) (.val (.int k n))=if 0<=n/\n<vs.length then some (.gu [.val (vs.getD n.toNat undef)])else none:=by simp[mH]
@[simp] theorem avD(vs:List Value)(H:U):mX .slice (.l4 vs) H=some (.i vs.length):=rfl
@[simp] theorem auG(sz v g off len:Nat)(k:IntKind)(n:Int):mH sz (.fY v g sz off len) (.val (.int k n))=if 0<=n/\n<len then some (.ptr v g ((off+n.toNat)*sz))else none:=by simp[mH]
@[simp] theorem auI(sz n v g o:Nat)(k:IntKind)(i:Int):HT sz n (.ptr v g o) (.val (.int k i))=if 0<=i/\i<n then some (.ptr v g (o+i.toNat*sz))else none:=rfl
@[simp] theorem auH(sz n:Nat)(cs:List D)(k:IntKind)(i:Int):HT sz n (.gu cs) (.val (.int k i))=if 0<=i/\i<n then some (.gu (cs.drop (i.toNat*sz)))else none:=rfl
@[simp] theorem auJ(sz n:Nat)(b:Bool)(cs:List D)(k:IntKind)(i:Int):N9 sz n b (.agg cs) (.val (.int k i))=if 0<=i/\i<n then Bk (i.toNat*sz) sz b (.agg cs)else none:=rfl
@[simp] theorem ar1(f:gP)(n:Int):ig f none n=some n:=rfl
def tZ:D->Option Int
 | .val (.int _ n)=>some n
 | _=>none
@[simp] theorem auL(k:IntKind)(n:Int):tZ (.val (.int k n))=some n:=rfl
@[simp] theorem U2(f:gP)(x:X)(n:Int):ig f (some x) n=tZ (ev f x):=by show(match ev f x with | .val (.int _ n)=>some n|_=>none)=_;unfold tZ;split<;>simp_all
@[simp] theorem O8(f:gP)(sz:Nat)(es:List (List D))(lo hi:Option X):tq f sz (.sl sz es) lo hi=(ig f lo 0).bind λl=>(ig f hi es.length).bind λh=>if 0<=l/\l<=h/\h<=es.length then some (.sl sz ((es.drop l.toNat).take (h.toNat-l.toNat)))else none:=by simp only[tq];cases ig f lo 0<;>cases ig f hi es.length<;>simp
@[simp] theorem azc(f:gP)(sz v g off len:Nat)(lo hi:Option X):tq f sz (.fY v g sz off len) lo hi=(ig f lo 0).bind λl=>(ig f hi len).bind λh=>if 0<=l/\l<=h/\h<=len then some (.fY v g sz (off+l.toNat) (h.toNat-l.toNat))else none:=by simp only[tq];cases ig f lo 0<;>cases ig f hi len<;>simp
@[simp] theorem azb(f:gP)(sz:Nat)(lo hi:Option X):tq f sz .gg lo hi=(ig f lo 0).bind λl=>(ig f hi 0).bind λh=>if l=0/\h=0 then some .gg else none:=by simp only[tq];cases ig f lo 0<;>cases ig f hi 0<;>simp
@[simp] theorem an3(f:gP)(sz:Nat)(es:List (List D))(lo:Option X)(hi mx:X):yT f sz (.sl sz es) lo hi mx=(ig f lo 0).bind λl=>(tZ (ev f hi)).bind λh=>(tZ (ev f mx)).bind λm=>if 0<=l/\l<=h/\h=m/\m<=es.length then some (clip sz ((es.drop l.toNat).take (h.toNat-l.toNat)))else none:=by simp only[yT,U2];cases ig f lo 0<;>cases tZ (ev f hi)<;>cases tZ (ev f mx)<;>simp
@[simp] theorem ay5(f:gP)(sz:Nat)(lo:Option X)(hi mx:X):yT f sz .gg lo hi mx=(ig f lo 0).bind λl=>(tZ (ev f hi)).bind λh=>(tZ (ev f mx)).bind λm=>if l=0/\h=0/\m=0 then some .gg else none:=by simp only[yT,U2];cases ig f lo 0<;>cases tZ (ev f hi)<;>cases tZ (ev f mx)<;>simp
@[simp] theorem ay6(f:gP)(sz n v g o:Nat)(lo hi:Option X)(H:U):AM f sz n (.ptr v g o) lo hi H=(ig f lo 0).bind λl=>(ig f hi n).bind λh=>(rowAt H v g).bind λp=>if o % sz=0/\o+n*sz<=p.2.length/\n<=16777216/\0<=l/\l<=h/\h<=n then some (.fY v g sz (o / sz+l.toNat) (h.toNat-l.toNat))else none:=by
 simp only[AM]
 cases ig f lo 0 with
 | none=>rfl
 | some l=>cases ig f hi n with
  | none=>rfl
  | some h=>dsimp only;cases rowAt H v g<;>rfl
theorem IX{α:Type}(f:α->List D)(l:List α)(a b:Nat):((l.map f).drop a).take b=((l.drop a).take b).map f:=by rw[List.map_take,List.map_drop]
@[simp] theorem ay8(f:gP)(l:List Pos)(lo hi:Option X):tq f 5 (gZ l) lo hi=(ig f lo 0).bind λa=>(ig f hi l.length).bind λh=>if 0<=a/\a<=h/\h<=l.length then some (gZ ((l.drop a.toNat).take (h.toNat-a.toNat)))else none:=by unfold gZ;rw[O8,List.length_map];simp only[IX]
@[irreducible] def cl{α:Type}(f:α->List D)(l:List α):List D:=(l.map f).flatten
theorem oC{α:Type}(f:α->List D)(l:List α):cl f l=(l.map f).flatten:=by rw[cl]
@[simp] theorem an7(sz:Nat)(H:U)(es:List (List D)):kS sz H (.sl sz es)=some (es.flatten,es.length):=by simp[kS]
@[simp] theorem EY{α:Type}(sz:Nat)(f:α->List D)(H:U)(l:List α):kS sz H (.sl sz (l.map f))=some (cl f l,l.length):=by rw[an7,List.length_map,oC]
@[simp] theorem azd(H:U)(l:List Int):kS 1 H (dI l)=some (cl f1 l,l.length):=by unfold dI;exact EY ..
@[simp] theorem azh(H:U)(l:List Pos):kS 5 H (gZ l)=some (cl Pos.cells l,l.length):=by unfold gZ;exact EY ..
@[simp] theorem azg(H:U)(l:List fZ):kS 2 H (gY l)=some (cl fS l,l.length):=by unfold gY;exact EY ..
@[simp] theorem aze{α:Type}(sz:Nat)(f:α->List D)(H:U)(l:List α):kS sz H (dN sz f l)=some (cl f l,l.length):=by
 cases l with
 | nil=>show some ([],0)=_;rw[oC];rfl
 | cons a l=>exact EY sz f H (a::l)
@[simp] theorem azj(sz:Nat)(H:U):kS sz H .gg=some ([],0):=rfl
@[simp] theorem azl(sz:Nat)(H:U)(v g off len:Nat):kS sz H (.fY v g sz off len)=(rowAt H v g).bind λp=>if (off+len)*sz<=p.2.length then some ((p.2.drop (off*sz)).take (len*sz),len)else none:=by simp only[kS];cases rowAt H v g<;>simp
@[simp] theorem aro(t sz bytes v g len:Nat)(y:D)(H:U)(a:Nat):sW t sz bytes (.fY v g sz 0 len) y H a=(kS sz H y).bind λq=>(rowAt H v g).bind λr=>if r.1=t/\len*sz<=r.2.length/\(len+q.2)*bytes<=140737488355328/\len+q.2<=9223372036854775807 then some (.fY v (g+1) sz 0 (len+q.2),.obj v (.row t (g+1) (r.2.take (len*sz)++q.1)))else none:=by
 simp only[sW]
 cases kS sz H y with
 | none=>rfl
 | some q=>cases rowAt H v g<;>simp
@[simp] theorem abR(t bytes:Nat)(vs:List Value)(y:D)(H:U)(a:Nat):sW t 1 bytes (.l4 vs) y H a=(kS 1 H y).bind λq=>if q.2≠0/\(vs.length+q.2)*bytes<=140737488355328/\vs.length+q.2<=9223372036854775807 then some (.fY a 0 1 0 (vs.length+q.2),.new (.row t 0 (vs.map .val++q.1)))else none:=by simp only[sW];cases kS 1 H y<;>simp
@[simp] theorem ari(t sz bytes:Nat)(y:D)(H:U)(a:Nat):sW t sz bytes .gg y H a=(kS sz H y).bind λq=>if q.2=0 then some (.gg,.no)else if q.2*bytes<=140737488355328/\q.2<=9223372036854775807 then some (.fY a 0 sz 0 q.2,.new (.row t 0 q.1))else none:=by simp only[sW];cases kS sz H y<;>rfl
@[simp] theorem awf(t sz bytes:Nat)(z:List D)(k a:IntKind)(n m:Int)(v:Nat):EC t sz bytes z (.val (.int k n)) (.val (.int a m)) v=if 0<=n/\n<=m/\rm m 9223372036854775807/\rm ((bytes:Int)*m) 281474976710656 then some (.fY v 0 sz 0 n.toNat,.new (.row t 0 (List.replicate m.toNat z).flatten))else none:=rfl
@[simp] theorem avx(n:Int)(k:Nat):rm n k=(n<=(k:Int)):=rfl
@[simp] theorem auN(f:gP):r9 f []=some []:=rfl
def Si:D->Option Int
 | .val (.int .i64 n)=>some n
 | _=>none
@[simp] theorem auF(n:Int):Si (.i n)=some n:=rfl
@[simp] theorem auM(f:gP)(x:X)(r:List X):r9 f (x::r)=(Si (ev f x)).bind λn=>(r9 f r).bind λl=>some (n::l):=by
 show(match ev f x,r9 f r with | .val (.int .i64 n),some l=>some (n::l)|_,_=>none)=_;unfold Si;split
 .rename_i h1 b;rw[h1,b];rfl
 .rename_i h;split
  .rename_i n a
   cases hl:r9 f r with
   | none=>rfl
   | some l=>exact absurd hl (h _ _ a)
  .rfl
def SV(d:Bool):List Int->Option D
 | [a,b]=>some (.i (if d then max a b else min a b))
 | [a,b,c]=>some (.i (if d then max (max a b) c else min (min a b) c))
 | _=>none
@[simp] theorem mm2(m:Bool)(a b:Int):SV m [a,b]=some (.i (if m then max a b else min a b)):=rfl
@[simp] theorem awe(f:gP)(m:Bool)(xs:List X):EB f m xs=(r9 f xs).bind (SV m):=by
 unfold EB
 cases r9 f xs with
 | none=>rfl
 | some l=>simp only[Option.bind_some];unfold SV;split<;>simp_all
@[simp] theorem ase(f:gP)(g:FuncId)(args:List X):kK f (.call g args)=some (g,args.map (ev f)):=rfl
def Mz(args:List D):D->Option (FuncId×List D)
 | .fn (.func k) first cap=>some (k,first++args++cap)
 | _=>none
@[simp] theorem asd(args:List D)(k:FuncId)(first cap:List D):Mz args (.fn (.func k) first cap)=some (k,first++args++cap):=rfl
@[simp] theorem acg(f:gP)(g:X)(args:List X):kK f (.callv g args)=Mz (args.map (ev f)) (ev f g):=by show(match ev f g with | .fn (.func k) first cap=>some (k,first++args.map (ev f)++cap)|_=>none)=_;unfold Mz;split<;>simp_all
def SB(z:D)(ok:Bool):Option D->D
 | some d=>if ok then .tup [d,.b true]else d
 | none=>if ok then .tup [z,.b false]else z
@[simp] theorem avY(z:D)(ok:Bool)(d:D):SB z ok (some d)=if ok then .tup [d,.b true]else d:=rfl
@[simp] theorem avX(z:D)(ok:Bool):SB z ok none=if ok then .tup [z,.b false]else z:=rfl
@[simp] theorem avZ(kk:KK)(z:D)(ok:Bool)(v:Nat)(k:D)(H:U):Cb kk z ok (.gD v) k H=(keyOf k).bind λkv=>(lM H v).bind λp=>if p.1=kk/\p.1.has kv=true then some (SB z ok (rr p.2 kv))else none:=by
 unfold Cb
 cases keyOf k with
 | none=>rfl
 | some kv=>
  cases h:lM H v with
  | none=>simp[h]
  | some p=>
   simp only[h,Option.bind_some];split
   .cases rr p.2 kv<;>rfl
   .rfl
@[simp] theorem awb(kk:KK)(v:Nat)(k x:D)(H:U):Ar kk (.gD v) k x H=(keyOf k).bind λkv=>(lM H v).bind λp=>if p.1=kk/\p.1.has kv=true then some (.any,.obj v (.map p.1 (mu p.2 kv x)))else none:=by
 unfold Ar
 cases keyOf k with
 | none=>rfl
 | some kv=>cases h:lM H v<;>simp[h]
def mapOf:Option Ob->Option (KK×List (Value×D))
 | some (.map kk es)=>some (kk,es)
 | _=>none
@[simp] theorem awa(kk:KK)(es:List (Value×D)):mapOf (some (.map kk es))=some (kk,es):=rfl
@[simp] theorem SH(H:U)(v:Nat):lM H v=mapOf H[v]? := by unfold lM mapOf;split<;>simp_all
@[simp] theorem ave(k:IntKind)(n:Int):sJ (.int k n) = .val (.int k n):=rfl
@[simp] theorem avg(s:ByteArray):sJ (.string s) = .val (.string s):=rfl
@[simp] theorem avd(b:Bool):sJ (.bool b) = .b b:=rfl
@[simp] theorem avj(s:ByteArray):keyOf (.val (.string s))=some (.string s):=rfl
@[simp] theorem avh(b:Bool):keyOf (.b b)=some (.bool b):=rfl
@[simp] theorem avi(k:IntKind)(n:Int):keyOf (.val (.int k n))=some (.int k n):=rfl
@[simp] theorem avC(v:Nat)(H:U):mX .map (.gD v) H=(lM H v).bind λp=>some (.i p.2.length):=by simp only[mX];cases lM H v<;>rfl
@[simp] theorem atz(ls:List mB)(neg:Bool)(x y:D):Bd false ls neg x y=(mL ls [x] [y]).bind λr=>some (.b (if neg then !r else r)):=by simp only[Bd];cases mL ls [x] [y]<;>rfl
@[simp] theorem aty(ls:List mB)(neg:Bool)(x y:List D):Bd true ls neg (.agg x) (.agg y)=(mL ls x y).bind λr=>some (.b (if neg then !r else r)):=by simp only[Bd];cases mL ls x y<;>rfl
@[simp] theorem asj:mL [] [] []=some true:=rfl
@[simp] theorem asi(l:mB)(ls:List mB)(x y:D)(xs c:List D):mL (l::ls) (x::xs) (y::c)=(uI l x y).bind λa=>(mL ls xs c).bind λb=>some (a&&b):=by show(match uI l x y,mL ls xs c with|some a,some b=>some (a&&b)|_,_=>none)=_;cases uI l x y<;>cases mL ls xs c<;>rfl
@[simp] theorem asg(a b:Int):uI .int (.i a) (.i b)=some (decide (a=b)):=by simp[uI,BEq.beq]
@[simp] theorem asf(a b:Bool):uI .bool (.b a) (.b b)=some (a == b):=rfl
@[simp] theorem ash(a b:ByteArray):uI .str (.val (.string a)) (.val (.string b))=some (a.data.toList == b.data.toList):=rfl
attribute [simp] gN kill u5 EP gT jV vh wu uH uG mz Ow lay Al.last rr mu nX KK.has gF
@[simp] theorem az4(v g sz off n:Nat):nJ (.fY v g sz off n) = [(v,none)]:=rfl
@[simp] theorem az3(v:Nat):nJ (.gD v) = [(v,none)]:=rfl
@[simp] theorem az6(sz:Nat)(es:List (List D)):nJ (.sl sz es) = []:=rfl
@[simp] theorem az1:nJ .gg = []:=rfl
@[simp] theorem az7(v:Value):nJ (.val v) = []:=rfl
@[simp] theorem azY(cs:List D):nJ (.agg cs) = []:=rfl
@[simp] theorem az2(cs:List D):nJ (.gu cs) = []:=rfl
@[simp] theorem az5(v g o:Nat):nJ (.ptr v g o) = []:=rfl
@[simp] theorem az0(l:List Int):nJ (dI l) = []:=by unfold dI;rfl
def XB(d:D)(P Q:Prop)(_:Tag (PProd.mk P Q)):Prop:=∃x,d = .b x/\(x=true->P)/\(x=false->Q)
def X2(x:Bool)(P Q:Prop)(_:Tag (PProd.mk P Q)):Prop:=(x=true->P)/\(x=false->Q)
@[simp] theorem ao9(P Q:Prop):X2 true P Q .mk=P:=by simp[X2]
@[simp] theorem ao6(P Q:Prop):X2 false P Q .mk=Q:=by simp[X2]
@[simp] theorem ao7(x:Bool)(P Q:Prop):X2 (!x) P Q .mk=X2 x Q P .mk:=by cases x<;>simp[X2]
@[simp] theorem ao8(x y:Bool)(P Q:Prop):X2 (!x || !y) P Q .mk=X2 (x&&y) Q P .mk:=by cases x<;>cases y<;>simp[X2]
theorem X2.d{p:Prop}[Decidable p]{P Q:Prop}(h:p->P)(k:¬p->Q):X2 (decide p) P Q .mk:=⟨λe=>h (of_decide_eq_true e),λe=>k (of_decide_eq_false e)⟩
theorem X2.a{p q:Prop}[Decidable p][Decidable q]{P Q:Prop}(h:p->q->P)(k:¬(p/\q)->Q):X2 (decide p&&decide q) P Q .mk:=by rw[<-dJ];exact X2.d (λe=>h e.1 e.2) k
theorem X2.o{p q:Prop}[Decidable p][Decidable q]{P Q:Prop}(h:p\/q->P)(k:¬(p\/q)->Q):X2 (decide p||decide q) P Q .mk:=by rw[<-fJ];exact X2.d h k
theorem X2.z{p:Prop}[Decidable p]{P Q:Prop}(h:¬p)(k:Q):X2 (decide p) P Q .mk:=X2.d (λn=>absurd n h) (λ_=>k)
@[simp] theorem apb(x:Bool)(a b:D)(P Q:Prop):XB (bif x then a else b) P Q .mk=X2 x (XB a P Q .mk) (XB b P Q .mk) .mk:=by cases x<;>simp
theorem X2.b{x:Bool}{P Q:Prop}(h:x=true->P)(k:x=false->Q):X2 x P Q .mk:=⟨h,k⟩
theorem Xg{p q:Prop}(b:q)(a:p:=by first|omega|assumption):p/\q:=⟨a,b⟩
@[simp] theorem apa(x:Bool)(P Q:Prop):XB (.b x) P Q .mk=X2 x P Q .mk:=by cases x<;>simp[XB,X2]
@[simp high] theorem apd(P Q:Prop):XB (.b true) P Q .mk=P:=by simp[XB]
@[simp high] theorem apc(P Q:Prop):XB (.b false) P Q .mk=Q:=by simp[XB]
def XG(g:Option Bool)(P Q:Prop)(_:Tag (PProd.mk P Q)):Prop:=∃x,g=some x/\(x=true->P)/\(x=false->Q)
@[simp] theorem apu(x:Bool)(P Q:Prop):XG (some x) P Q .mk=X2 x P Q .mk:=by cases x<;>simp[XG,X2]
@[simp high] theorem apx(P Q:Prop):XG (some true) P Q .mk=P:=by simp[XG]
@[simp high] theorem apw(P Q:Prop):XG (some false) P Q .mk=Q:=by simp[XG]
@[simp] theorem apv(x w:Bool)(a b:D)(P Q:Prop):XG (gB (bif x then a else b) w) P Q .mk=X2 x (XG (gB a w) P Q .mk) (XG (gB b w) P Q .mk) .mk:=by cases x<;>simp
def kp(s:St)(dst:Option Nat)(K:St->Prop):D×Dl->Prop:=λp=>K { s with env:=put s.env dst p.1,H:=p.2.app s.H (Al.last s.H) }
def kt(s:St)(dst:Option Nat)(R:List Fp)(Q:Rc->St->Prop):D×Dl->Prop:=λp=>Q ⟨R,jV s.H.length p.2⟩ { s with env:=put s.env dst p.1,H:=p.2.app s.H (Al.last s.H) }
section
variable(T:iB)
def gx(f:FuncId)(args:List D)(dst:Option Nat)(s:St)(K:St->Prop)(_:Tag (dst,s,K)):Prop:=
 (∃fn,T.fn f=some fn/\fn.full=false/\Wf T f (args.map (gq (λ_=>none) s.H 40)) [] λd Hn=>oA (after s dst args d Hn) K .mk) \/
 (∃fn,T.fn f=some fn/\fn.full=true/\Wf T f args s.H λd H'=>K { s with env:=put s.env dst d,H:=H' })
def je(f:FuncId)(args:List D)(R:List Fp)(dst:Option Nat)(s:St)(Q:Rc->St->Prop)(_:Tag (dst,s,Q)):Prop:=
 ∃fn d,T.fn f=some fn/\fn.full=false/\Wf T f (args.map (gq (λ_=>none) s.H 40)) [] (λd' Hn=>d'=d/\Hn = [])/\(if gF args then closed d else flat d)=true/\Q ⟨R,[]⟩ { s with env:=put s.env dst d }
def pK(f:FuncId)(args:List D)(R:List Fp)(dst:Option Nat)(s:St)(Q:Rc->St->Prop)(t:Tag (dst,s,Q)):Prop:=
 je T f args R dst s Q t\/∃fn d ob,T.fn f=some fn/\fn.full=false/\Wf T f (args.map (gq (λ_=>none) s.H 40)) [] (λd' Hn=>d'=d/\Hn = [ob]) /\
  (if gF args then mO d&&n5 ob else o3 d&&pP ob)=true/\Q ⟨R,[(s.H.length,none)]⟩ { s with env:=put s.env dst (kE s.H.length d),H:=s.H ++ [ob] }
def uF(f:FuncId)(args:List D)(R:List Fp)(dst:Option Nat)(s:St)(Q:Rc->St->Prop)(t:Tag (dst,s,Q)):Prop:=
 pK T f args R dst s Q t\/∃fn d v,T.fn f=some fn/\fn.full=false/\(∀u∈(args.map (iC s.H 40)).flatten,u=v)/\v∈(args.map (iC s.H 40)).flatten/\(rowsOf s.H v).isSome=true /\
  gF (args.map (gq (λ_=>none) s.H 40))=true/\Wf T f (args.map (gq (λ_=>none) s.H 40)) [] (λd' Hn=>d'=d/\Hn = [])/\closed d=true/\Q ⟨R,[(v,none)]⟩ { s with env:=put s.env dst d,H:=s.H.set v .dead }
def Cr(v rf:Nat)(dst:Option Nat)(s:St)(K:St->Prop):iY:=λo=>∃a,o.st.H[v]? = some (.ib rf a .busy)/\K { s with env:=put s.env dst (.b !o.stop),H:=o.st.H.set v (.ib rf a o.AH) }
def na(v:Nat)(args:List D)(dst:Option Nat)(s:St)(K:St->Prop)(_:Tag (dst,s,K)):Prop:=
 ∃rf env0 Rd,s.H[v]? = some (.ib rf env0 .ready)/\T.round rf=some Rd/\args.length=Rd.params.length /\
  Wc T Rd.a { env:=uw Rd.params args env0,H:=s.H,iD:=true } λo=>∃s1 a,o = .norm s1/\s1.H[v]? = some (.ib rf a .ready)/\Wc T Rd.b { s1 with H:=s1.H.set v (.ib rf a .busy) } (Cr v rf dst s K)
def wN(d:D)(args:List D)(dst:Option Nat)(s:St)(K:St->Prop)(t:Tag (dst,s,K)):Prop:=
 match d with
 | .iT v=>na T v args dst s K t
 | d=>oA (Mz args d) (λp=>gx T p.1 p.2 dst s K t) .mk
def uE(x:D)(dst:Option Nat)(s:St)(K:St->Prop)(_:Tag (dst,s,K)):Prop:=
 ∃v m since seen kk es,x = .ptr v 0 0/\s.H[v]? = some (.jl (.gD m) since seen)/\s.H[m]? = some (.map kk es)/\es.length=since /\
  ((∀i,i<es.length->i∈seen)->K { s with env:=put s.env dst (.tup [.b false]) }) /\
  (∀i k d,es[i]? = some (k,d)->i ∉ seen->K { s with env:=put s.env dst (.tup [.b true,sJ k,d]),H:=s.H.set v (.jl (.gD m) since (seen ++ [i])) })
def iU(op:iL)(dst:Option Nat)(s:St)(K:St->Prop):Prop:=
 match op with
 | .call f args=>gx T f (args.map (ev s.env.get)) dst s K .mk
 | .callN f args=>gx T f (args.map (ev s.env.get)) dst s K .mk
 | .callv f args=>wN T (ev s.env.get f) (args.map (ev s.env.get)) dst s K .mk
 | .nilS a b=>oA (mz s.env.get s.H s.H.length (.nilS a b)) (kp s dst K) .mk
 | .capE a=>oA (mz s.env.get s.H s.H.length (.capE a)) (kp s dst K) .mk
 | .appZ a b c d e f=>oA (mz s.env.get s.H s.H.length (.appZ a b c d e f)) (kp s dst K) .mk
 | .clr a b c=>oA (mz s.env.get s.H s.H.length (.clr a b c)) (kp s dst K) .mk
 | .rangeS a=>oA (mz s.env.get s.H s.H.length (.rangeS a)) (kp s dst K) .mk
 | .nextS a=>oA (mz s.env.get s.H s.H.length (.nextS a)) (kp s dst K) .mk
 | .rangeM a=>oA (mz s.env.get s.H s.H.length (.rangeM a)) (kp s dst K) .mk
 | .entry a=>oA (mz s.env.get s.H s.H.length (.entry a)) (kp s dst K) .mk
 | .mapEnt a b c d=>oA (mz s.env.get s.H s.H.length (.mapEnt a b c d)) (kp s dst K) .mk
 | .entSt a b c=>oA (mz s.env.get s.H s.H.length (.entSt a b c)) (kp s dst K) .mk
 | .nextM a=>uE (ev s.env.get a) dst s K .mk
 | op=>oA (gN s.env.get s.H s.H.length op) (kp s dst K) .mk
def jS(op:iL)(dst:Option Nat)(s:St)(Q:Rc->St->Prop):Prop:=
 match op with
 | .call f args=>je T f (args.map (ev s.env.get)) (gT s.env.get s.H (.call f args)) dst s Q .mk
 | .callN f args=>uF T f (args.map (ev s.env.get)) (gT s.env.get s.H (.callN f args)) dst s Q .mk
 | .callv f args=>oA (kK s.env.get (.callv f args)) (λp=>je T p.1 p.2 (gT s.env.get s.H (.callv f args)) dst s Q .mk) .mk
 | op=>oA (gN s.env.get s.H s.H.length op) (kt s dst (gT s.env.get s.H op) Q) .mk
def XO:List ic->St->(St->Prop)->Prop
 | [],s,K=>K s
 | e::r,s,K=>XG (guardOf s.env.get e.guard) (iU T e.op e.dst s λa=>XO r a K) (XO r { s with env:=put s.env e.dst (.val undef) } K) .mk
def XT:List ic->St->(List Rc->St->Prop)->Prop
 | [],s,K=>K [] s
 | e::r,s,K=>XG (guardOf s.env.get e.guard) (jS T e.op e.dst s λrc b=>XT r b λrs a=>K (rc::rs) a) (XT r { s with env:=put s.env e.dst (.val undef) } λrs a=>K (⟨[],[]⟩::rs) a) .mk
end
section
variable{T:iB}
theorem S3{α:Type}{x:Option α}{P Q:α->Prop}{t:Tag P}{u:Tag Q}(h:oA x P t)(hi:∀a,P a->Q a):oA x Q u:=by obtain⟨a,h1,b⟩:=h;exact⟨a,h1,hi a b⟩
theorem gx.mono{f:FuncId}{args:List D}{dst:Option Nat}{s:St}{K c:St->Prop}{t:Tag (dst,s,K)}{u:Tag (dst,s,c)}(h:gx T f args dst s K t)(hi:∀s,K s->c s):gx T f args dst s c u:=by
 rcases h with⟨fn,b,a,h⟩|⟨fn,b,a,h⟩
 .exact .inl ⟨fn,b,a,Wf.mono h λd Hn h=>S3 h hi⟩
 .exact .inr ⟨fn,b,a,Wf.mono h λd H h=>hi _ h⟩
theorem na.mono{v:Nat}{args:List D}{dst:Option Nat}{s:St}{K a:St->Prop}{t:Tag (dst,s,K)}{u:Tag (dst,s,a)}(h:na T v args dst s K t)(hi:∀s,K s->a s):na T v args dst s a u:=by obtain⟨rf,env0,Rd,d,f,hl,h⟩:=h;exact⟨rf,env0,Rd,d,f,hl,h.mono λo ⟨s1,b,e,h1,j⟩=>⟨s1,b,e,h1,j.mono λo ⟨c,i,g⟩=>⟨c,i,hi _ g⟩⟩⟩
theorem wN.mono{d:D}{args:List D}{dst:Option Nat}{s:St}{K a:St->Prop}{t:Tag (dst,s,K)}{u:Tag (dst,s,a)}(h:wN T d args dst s K t)(hi:∀s,K s->a s):wN T d args dst s a u:=by
 unfold wN at h ⊢;split at h
 .exact na.mono h hi
 .exact S3 h λp b=>gx.mono b hi
theorem uE.mono{x:D}{dst:Option Nat}{s:St}{K a:St->Prop}{t:Tag (dst,s,K)}{u:Tag (dst,s,a)}(h:uE x dst s K t)(hi:∀s,K s->a s):uE x dst s a u:=by obtain⟨v,m,since,seen,kk,es,h1,g,f,e,c,b⟩:=h;exact⟨v,m,since,seen,kk,es,h1,g,f,e,λh=>hi _ (c h),λi k d l j=>hi _ (b i k d l j)⟩
theorem iU.mono{op:iL}{dst:Option Nat}{s:St}{K a:St->Prop}(h:iU T op dst s K)(hi:∀s,K s->a s):iU T op dst s a:=by
 unfold iU at h ⊢
 split at h<;>first
  | exact gx.mono h hi
  | exact wN.mono h hi
  | exact uE.mono h hi
  | exact S3 h λp b=>hi _ b
theorem XO.mono:∀ {l:List ic} {s:St} {K a:St->Prop},XO T l s K->(∀s,K s->a s)->XO T l s a
 | [],s,K,a,h,hi=>hi s h
 | e::r,s,K,a,h,hi=>by obtain⟨x,hg,b,c⟩:=h;exact⟨x,hg,λe=>iU.mono (b e) λd h=>XO.mono h hi,λe=>XO.mono (c e) hi⟩
theorem gx.wo{f:FuncId}{args:List D}{s:St}{K:St->Prop}{e:ic}{r:List ic}(hg:guardOf s.env.get e.guard=some true)(l:kK s.env.get e.op=some (f,args))(h:gx T f args e.dst s (λg=>Wo T r g K) .mk):Wo T (e::r) s K:=by
 rcases h with⟨fn,j,i,h⟩|⟨fn,j,i,h⟩
 .refine Ev.F6 hg l j i h (λd Hn b=>?_) λd Hn g b k=>?_
  .obtain⟨d',H',a,g,hs,c⟩:=b;cases a;rw[hs];rfl
  .obtain⟨d',H',a,m,hs,c⟩:=b;cases a;rw[hs]at k;cases k;exact c
 .exact Ev.F5 hg l j i h λd H' b=>by obtain⟨d',H2,a,c⟩:=b;cases a;exact c
theorem XO.xE{l2:List ic}{K:St->Prop}:∀ {l:List ic} {s:St},XO T l s (λb=>Wo T l2 b K)->Wo T (l++l2) s K
 | [],s,h=>h
 | e::r,s,h=>by
  obtain⟨x,hg,F,t⟩:=h
  cases x with
  | false=>exact Wo.off hg (XO.xE (t rfl))
  | true=>
   have h:=F rfl;have plain:oA (gN s.env.get s.H s.H.length e.op) (kp s e.dst λb=>XO T r b λb=>Wo T l2 b K) .mk->Wo T (e::r++l2) s K:=λ⟨⟨d,δ⟩,z,y⟩=>Wo.op hg z (XO.xE y);have sp:oA (mz s.env.get s.H s.H.length e.op) (kp s e.dst λb=>XO T r b λb=>Wo T l2 b K) .mk->Wo T (e::r++l2) s K:=λ⟨⟨d,δ⟩,z,y⟩=>Wo.CJ hg z (XO.xE y)
   have call:∀f args,kK s.env.get e.op=some (f,args)->gx T f args e.dst s (λb=>XO T r b λb=>Wo T l2 b K) .mk->Wo T (e::r++l2) s K:=λf args G D=>by
    refine gx.wo hg G ?_;rcases D with⟨fn,t,q,h⟩|⟨fn,t,q,h⟩
    .exact .inl ⟨fn,t,q,Wf.mono h λd Hn ⟨b,h1,g⟩=>⟨b,h1,XO.xE g⟩⟩
    .exact .inr ⟨fn,t,q,Wf.mono h λd Hn h1=>XO.xE h1⟩
   unfold iU at h;split at h
   case h_1 f args c=>exact call _ _ (by rw[c];rfl) h
   case h_2 f args c=>exact call _ _ (by rw[c];rfl) h
   case h_3 f args c=>
    unfold wN at h;split at h
    .rename_i v E;obtain⟨rf,env0,Rd,B,H,hl,h⟩:=h;have C:yieldOf s.env.get e.op=some (v,args.map (ev s.env.get)):=by rw[c];simp only[yieldOf,E]
     refine Ev.My hg C B H hl h (λo ⟨o',j,s1,A,u,h1,g⟩=>?_) (Rb:=PO (Cr v rf e.dst s λb=>XO T r b λb=>Wo T l2 b K)) (λs1 A ⟨o',j,N,w,u,h1,g⟩ n=>?_) (λo ⟨o',j,w,h1,g⟩=>?_) λo w ⟨o',j,M,h1,g⟩ n=>?_
     .cases j;subst u;exact⟨rfl,A,h1⟩
     .cases j;cases u;rw[h1]at n;cases n;exact g
     .cases j;exact⟨w,h1⟩
     .cases j;rw[h1]at n;cases n;exact XO.xE g
    .rename_i O;obtain⟨p,q,h⟩:=h;exact call p.1 p.2 (by rw[c,acg];exact q) h
   case h_14 a c=>
    obtain⟨v,m,since,seen,kk,es,h1,g,n,L,J,I⟩:=h;exact Ev.next hg c h1 g n L (λk=>XO.xE (J k)) λi k d j u=>XO.xE (I i k d j u)
   case h_15=>exact plain h
   all_goals (rename_i c;exact sp (by rw[c];exact h))
theorem XO.wo{l:List ic}{s:St}{K:St->Prop}(h:XO T l s K):Wo T l s K:=by have:=XO.xE (l2:=[]) (K:=K) (XO.mono h λa k=>Wo.nil k);rwa [az]at this
theorem XT.wt:∀ {l:List ic} {s:St} {K:List Rc->St->Prop},XT T l s K->Wt T l s K
 | [],s,K,h=>Wt.nil h
 | e::r,s,K,h=>by
  obtain⟨x,hg,w,g⟩:=h
  cases x with
  | false=>exact Wt.off hg (XT.wt (g rfl))
  | true=>
   have h:=w rfl
   have call:∀f args,kK s.env.get e.op=some (f,args)->je T f args (gT s.env.get s.H e.op) e.dst s (λrc q=>XT T r q λrs o=>K (rc::rs) o) .mk->Wt T (e::r) s K:=λf args z ⟨fn,d,g,b,m,n,c⟩=>
    Ev.I4 hg z g b m (λd' Hn ⟨d2,H2,a,i⟩=>by cases a;exact i) n (XT.wt c) λrs q ⟨j,o,a,k⟩=>by cases a;exact⟨_,_,rfl,k⟩
   unfold jS at h;split at h
   case h_1 f args a=>exact call _ _ (by rw[a];rfl) (by rw[a];exact h)
   case h_2 f args a=>
    rcases h with(h|⟨fn,d,ob,g,b,m,n,c⟩)|⟨fn,d,v,g,b,hS,u,A,n,m,y,c⟩
    .exact call _ _ (by rw[a];rfl) (by rw[a];exact h)
    .exact Ev.I5 hg a rfl g b m (λd' Hn ⟨d2,H2,a,i⟩=>by cases a;exact i) n (XT.wt c) λrs q ⟨j,o,t,k⟩=>by cases t;rw[a];exact⟨_,_,rfl,k⟩
    .exact Ev.I6 hg a rfl g b hS u A n m (λd' Hn ⟨d2,H2,a,i⟩=>by cases a;exact i) y (XT.wt c) λrs q ⟨j,o,t,k⟩=>by cases t;rw[a];exact⟨_,_,rfl,k⟩
   case h_3 f args a=>obtain⟨p,b,h⟩:=h;exact call p.1 p.2 (by rw[a];exact b) (by rw[a];exact h)
   case h_4=>obtain⟨⟨d,δ⟩,i,c⟩:=h;exact Wt.op hg i (XT.wt c)
end
def lE:IR->IR
 | .seq a b=>.seq (lE a) (lE b)
 | .cond c a b=>.cond c (lE a) (lE b)
 | .block id live a=>.block id live (lE a)
 | .loop live a=>.loop live (lE a)
 | .fz _ a=>lE a
 | .vt _ a b=>.ops (a++b)
 | c=>c
def ui:IR->Bool
 | .seq a b=>ui a&&ui b
 | .cond _ a b=>ui a&&ui b
 | .block _ _ a=>ui a
 | .loop _ a=>ui a
 | .fz _ _=>false
 | .vt _ _ _=>false
 | _=>true
theorem nj:∀ {c:IR},ui c=true->lE c=c
 | .seq a b,h=>by simp only[ui,Bool.and_eq_true]at h;rw[lE,nj h.1,nj h.2]
 | .cond _ a b,h=>by simp only[ui,Bool.and_eq_true]at h;rw[lE,nj h.1,nj h.2]
 | .block _ _ a,h=>by rw[lE,nj (c:=a) h]
 | .loop _ a,h=>by rw[lE,nj (c:=a) h]
 | .fz _ _,h=>by cases h
 | .vt _ _ _,h=>by cases h
 | .skip,_ | .ops _,_ | .l6 _ _,_ | .mR _ _ _,_ | .oB _ _ _,_ | .exit _,_ | .ret,_ | .bad,_=>rfl
def ma(k:Nat):List ic->Bool
 | { dst:=some j,.. }::_=>decide (j=k)
 | _=>false
def iZ(k:Nat)(S:List Nat):IR->IR
 | .ops l=>bif ma k l then .fz S (.ops l)else .ops l
 | .l6 p l=>bif ma k l then .fz S (.l6 p l)else .l6 p l
 | .mR p l e=>bif ma k l then .fz S (.mR p l e)else .mR p l e
 | .seq a b=>.seq (iZ k S a) (iZ k S b)
 | .cond c a b=>.cond c (iZ k S a) (iZ k S b)
 | .block id live a=>.block id live (iZ k S a)
 | .loop live a=>.loop live (iZ k S a)
 | .fz d a=>.fz d (iZ k S a)
 | c=>c
theorem AO(k:Nat)(S:List Nat):∀c:IR,lE (iZ k S c)=lE c
 | .ops l=>by unfold iZ;cases ma k l<;>rfl
 | .l6 p l=>by unfold iZ;cases ma k l<;>rfl
 | .mR p l e=>by unfold iZ;cases ma k l<;>rfl
 | .seq a b=>by simp only[iZ,lE,AO k S a,AO k S b]
 | .cond c a b=>by simp only[iZ,lE,AO k S a,AO k S b]
 | .block id live a=>by simp only[iZ,lE,AO k S a]
 | .loop live a=>by simp only[iZ,lE,AO k S a]
 | .fz d a=>by simp only[iZ,lE,AO k S a]
 | .skip | .oB _ _ _ | .exit _ | .ret | .bad | .vt _ _ _=>rfl
def np(k:Nat):List ic->List ic
 | []=>[]
 | e::r=>bif ma k [e]then []else e::np k r
def nz(k:Nat):List ic->List ic
 | []=>[]
 | e::r=>bif ma k [e]then e::r else nz k r
def nP(k:Nat):List ic->Bool
 | []=>false
 | e::r=>ma k [e]||nP k r
theorem UY(k:Nat):∀l:List ic,np k l++nz k l=l
 | []=>rfl
 | e::r=>by unfold np nz;cases ma k [e]<;>simp[UY k r]
def kD(k:Nat)(S:List Nat):IR->IR
 | .ops l=>bif nP k l then .vt S (np k l) (nz k l)else .ops l
 | .seq a b=>.seq (kD k S a) (kD k S b)
 | .cond c a b=>.cond c (kD k S a) (kD k S b)
 | .block id live a=>.block id live (kD k S a)
 | .loop live a=>.loop live (kD k S a)
 | .fz d a=>.fz d (kD k S a)
 | c=>c
theorem AP(k:Nat)(S:List Nat):∀c:IR,lE (kD k S c)=lE c
 | .ops l=>by unfold kD;cases nP k l<;>simp[lE,UY]
 | .seq a b=>by simp only[kD,lE,AP k S a,AP k S b]
 | .cond c a b=>by simp only[kD,lE,AP k S a,AP k S b]
 | .block id live a=>by simp only[kD,lE,AP k S a]
 | .loop live a=>by simp only[kD,lE,AP k S a]
 | .fz d a=>by simp only[kD,lE,AP k S a]
 | .skip | .oB _ _ _ | .exit _ | .ret | .bad | .vt _ _ _ | .l6 _ _ | .mR _ _ _=>rfl
def gj(T:iB)(live:List Nat)(a:IR)(s:St)(K:iY)(_:Tag (live,a,s,K)):Prop:=Wc T (.loop live (lE a)) s K
def sT(T:iB)(rf:Nat)(live:List Nat)(x:X)(s:St)(K:iY)(_:Tag (live,x,s,K)):Prop:=Wc T (.oB rf live x) s K
@[irreducible] def xp(m S:List Nat):Bool:=m.all λv => !S.contains v
theorem Ib(m S:List Nat):xp m S=m.all λv => !S.contains v:=by unfold xp;rfl
@[simp] theorem aht(S:List Nat):xp [] S=true:=by rw[Ib];rfl
@[simp] theorem av9(v:Nat)(m S:List Nat):xp (v::m) S=(!decide (v∈S)&&xp m S):=by rw[Ib,Ib,List.all_cons,c9]
def PE:D->List Nat
 | .agg cs=>(cs.map (jv 0)).flatten
 | _=>[]
@[simp] theorem arb(cs:List D):PE (.agg cs)=(cs.map (jv 0)).flatten:=rfl
def qe(env:Env):List Nat->List Nat
 | []=>[]
 | v::r=>if v<1000 then v::qe env r else if v<2000 then jv 0 (env.get (v-1000))++qe env r else PE (env.get (v-2000))++qe env r
@[simp] theorem auc(env:Env):qe env [] = []:=rfl
@[simp] theorem aub(env:Env)(v:Nat)(r:List Nat):qe env (v::r)=if v<1000 then v::qe env r else if v<2000 then jv 0 (env.get (v-1000))++qe env r else PE (env.get (v-2000))++qe env r:=rfl
def XC(T:iB):IR->St->iY->Prop
 | .skip,s,K=>K (.norm s)
 | .ops l,s,K=>XO T l s λd=>K (.norm d)
 | .l6 jG l,s,K=>XT T l s λrs d=>wu jG rs=true/\K (.norm d)
 | .mR jG l es,s,K=>XT T l s λrs d=>wu jG rs=true/\XO T es d λd=>K (.norm d)
 | .seq a b,s,K=>XC T a s λo=>match o with
  | .norm d=>XC T b d K
  | o=>K o
 | .cond c a b,s,K=>XB (ev s.env.get c) (XC T a s K) (XC T b s K) .mk
 | .block id live a,s,K=>XC T a s λo=>K (lP id s.H.length live o)
 | .loop live a,s,K=>gj T live a s K .mk
 | .oB rf live x,s,K=>sT T rf live x s K .mk
 | .exit id,s,K=>K (.exit id s)
 | .ret,s,K=>K (.ret s)
 | .bad,_,_=>False
 | .fz S a,s,K=>xp s.marks (qe s.env S)=true/\XC T a (l8 (qe s.env S) s) K
 | .vt S a b,s,K=>XO T a s λd=>xp d.marks (qe d.env S)=true/\XO T b (l8 (qe d.env S) d) λd=>K (.norm d)
def OB(T:iB)(b:IR)(K:iY):iY:=λo=>match o with
 | .norm a=>XC T b a K
 | o=>K o
def xS(id n:Nat)(live:List Nat)(K:iY):iY:=λo=>K (lP id n live o)
section
variable{T:iB}
theorem Wc.l8{c:IR}{s:St}{K:iY}(S:List Nat)(a:xp s.marks S=true)(h:Wc T c (l8 S s) K):Wc T c s K:=Ev.Gz S (by rwa [Ib]at a) h
theorem XC.wc:∀ {c:IR} {s:St} {K:iY},XC T c s K->Wc T (lE c) s K
 | .skip,s,K,h=>Wc.skip h
 | .ops l,s,K,h=>Wc.ops (XO.wo h)
 | .l6 jG l,s,K,h=>Wc.l6 (XT.wt h)
 | .mR jG l es,s,K,h=>Wc.mR (Ev.mono (XT.wt h) λ_ ⟨rs,d,q,k⟩=>⟨rs,d,q,k.1,XO.wo k.2⟩)
 | .seq a b,s,K,h=>Wc.seq ((XC.wc (c:=a) h).mono λo f=>by
  cases o with
  | norm d=>exact XC.wc (c:=b) f
  | exit=>exact f
  | ret=>exact f)
 | .cond _ _ _,_,_,h=>by obtain⟨x,g,i,j⟩:=h;exact Wc.cond x g (λe=>XC.wc (i e)) λe=>XC.wc (j e)
 | .block _ _ _,_,_,h=>Wc.block (XC.wc h)
 | .loop live a,s,K,h=>h
 | .oB rf live x,s,K,h=>h
 | .exit id,s,K,h=>Wc.exit h
 | .ret,s,K,h=>Wc.ret h
 | .bad,s,K,h=>h.elim
 | .fz S a,s,K,h=>Wc.l8 (qe s.env S) h.1 (XC.wc (c:=a) h.2)
 | .vt S a b,s,K,h=>Wc.ops (XO.xE (XO.mono h λd k=>Ev.l8 (qe d.env S) (by have:=k.1;rwa [Ib]at this) (XO.wo k.2)))
def u4(ds:List D):D:=match ds with
 | [d]=>d
 | ds=>.tup ds
@[simp] theorem ax9(d:D):u4 [d]=d:=rfl
@[simp] theorem aya(d e:D):u4 [d,e] = .tup [d,e]:=rfl
@[simp] theorem ayb(d e f:D):u4 [d,e,f] = .tup [d,e,f]:=rfl
@[simp] theorem ax8:u4 [] = .tup []:=rfl
def zF(rs:List ve)(own n:Nat)(K:D->U->Prop):iY:=λo=>match o with
 | .norm s | .ret s=>oA (kill s.marks s.H) (λH=>oA (u5 { s with H:=H } rs) (λds=>K (leave own n H (u4 ds)).1 (leave own n H (u4 ds)).2) .mk) .mk
 | .exit _ _=>False
theorem Wf.xz(own:Nat){f:FuncId}{args:List D}{H:U}{fn:jw}{K:D->U->Prop}(c:IR)(g:T.fn f=some fn)(hl:args.length<=fn.ntmps)(i:lE c=fn.body)
  (h:XC T c { env:=uf args,H:=H } (zF fn.results own H.length K)):Wf T f args H K:=by
 have key:∀s:St,(oA (kill s.marks s.H) (λH'=>oA (u5 { s with H:=H' } fn.results) (λds=>K (leave own H.length H' (u4 ds)).1 (leave own H.length H' (u4 ds)).2) .mk) .mk)->∃d H',(match kill s.marks s.H with
  | some H1=>match results fn { s with H:=H1 }with
   | some d=>some (leave own H.length H1 d)
   | none=>none
  | none=>none)=some (d,H')/\K d H':=by
  rintro s ⟨H1,h1,ds,j,e⟩;rw[h1];refine⟨_,_,?_,e⟩;unfold AL.results;dsimp only;rw[j]
  cases ds with
  | nil=>rfl
  | cons a l=>cases l<;>rfl
 refine Wf.call own g hl (i▸(XC.wc h).mono λo b=>?_)
 cases o with
 | norm s=>exact key s b
 | ret s=>exact key s b
 | exit=>exact b.elim
theorem Wf.xo(own:Nat){f:FuncId}{args:List D}{H:U}{fn:jw}{K:D->U->Prop}(b:T.fn f=some fn)(hl:args.length<=fn.ntmps)
  (h:XC T fn.body { env:=uf args,H:=H } (zF fn.results own H.length K)) (a:ui fn.body=true:=by rfl):Wf T f args H K:=Wf.xz own fn.body b hl (nj a) h
theorem Wf.x{f:FuncId}{args:List D}{H:U}{fn:jw}{K:D->U->Prop}(b:T.fn f=some fn)(hl:args.length<=fn.ntmps)
  (h:XC T fn.body { env:=uf args,H:=H } (zF fn.results fn.own H.length K)) (a:ui fn.body=true:=by rfl):Wf T f args H K:=Wf.xo fn.own b hl h a
theorem gx.is{f:FuncId}{args:List D}{dst:Option Nat}{s:St}{K:St->Prop}{fn:jw}{K0:D->U->Prop}(b:T.fn f=some fn)(a:fn.full=false)(h:Wf T f (args.map (gq (λ_=>none) s.H 40)) [] K0)
  (k:∀d Hn,K0 d Hn->oA (after s dst args d Hn) K .mk):gx T f args dst s K .mk:=.inl ⟨fn,b,a,Wf.mono h k⟩
theorem gx.kH{f:FuncId}{args:List D}{dst:Option Nat}{s:St}{K:St->Prop}{fn:jw}{K0:D->U->Prop}(b:T.fn f=some fn)(a:fn.full=true)(h:Wf T f args s.H K0)
  (k:∀d H',K0 d H'->K { s with env:=put s.env dst d,H:=H' }):gx T f args dst s K .mk:=.inr ⟨fn,b,a,Wf.mono h k⟩
theorem gx.c{f:FuncId}{args:List D}{dst:Option Nat}{s:St}{K:St->Prop}{fn:jw}{x:D}(e:T.fn f=some fn)(c:fn.full=false)(h:Wf T f args [] λd H'=>d=x/\H' = [])
  (a:gF args=true) (b:closed x=true) (k:K { s with env:=put s.env dst x }):gx T f args dst s K .mk:=by
 refine gx.is e c (K0:=λd H'=>d=x/\H' = []) ?_ ?_
 .have i:args.map (gq (λ_=>none) s.H 40)=args:=by
   conv=>rhs;rw[<-bf args]
   exact aw λd g=>qt (mo a d g)
  rw[i];exact h
 .rintro d Hn ⟨rfl,rfl⟩;obtain⟨k1,k2⟩:=F' (H:=s.H) b;refine⟨{ s with env:=put s.env dst d },?_,k⟩;unfold after;rw[if_pos a,k1,k2];simp
theorem gx.r{f:FuncId}{args oN:List D}{dst:Option Nat}{s:St}{K:St->Prop}{fn:jw}{x:D}(e:T.fn f=some fn)(c:fn.full=false)(h:Wf T f oN [] λd H'=>d=x/\H' = [])
  (hs:args.map (gq (λ_=>none) s.H 40)=oN) (b:flat x=true) (a:closed x=true) (k:K { s with env:=put s.env dst x }):gx T f args dst s K .mk:=by
 refine gx.is e c (K0:=λd H'=>d=x/\H' = []) (by rw[hs];exact h) ?_;rintro d Hn ⟨rfl,rfl⟩;obtain⟨k1,k2⟩:=F' (H:=s.H) a;refine⟨{ s with env:=put s.env dst d },?_,k⟩;have:o3 d=true:=(Qs (H:=s.H) b).1;unfold after;rw[this,k1,k2];simp
theorem je.c{f:FuncId}{args:List D}{R:List Fp}{dst:Option Nat}{s:St}{Q:Rc->St->Prop}{fn:jw}{x:D}(e:T.fn f=some fn)(c:fn.full=false)(h:Wf T f args [] λd H'=>d=x/\H' = [])
  (a:gF args=true) (b:closed x=true) (k:Q ⟨R,[]⟩ { s with env:=put s.env dst x }):je T f args R dst s Q .mk:=by
 refine⟨fn,x,e,c,?_,by rw[if_pos a];exact b,k⟩
 have i:args.map (gq (λ_=>none) s.H 40)=args:=by
  conv=>rhs;rw[<-bf args]
  exact aw λd g=>qt (mo a d g)
 rw[i];exact h
theorem je.r{f:FuncId}{args oN:List D}{R:List Fp}{dst:Option Nat}{s:St}{Q:Rc->St->Prop}{fn:jw}{x:D}(b:T.fn f=some fn)(a:fn.full=false)(h:Wf T f oN [] λd H'=>d=x/\H' = [])
  (hs:args.map (gq (λ_=>none) s.H 40)=oN) (e:flat x=true) (c:closed x=true) (k:Q ⟨R,[]⟩ { s with env:=put s.env dst x }):je T f args R dst s Q .mk:=
 ⟨fn,x,b,a,by rw[hs];exact h,by split<;>assumption,k⟩
variable{s:St}{K:iY}{a b:IR}{l:List ic}{op:iL}{k j:Nat}
@[simp ↓] theorem apr:XC T .skip s K=K (.norm s):=(rfl)
@[simp ↓] theorem apm:XC T (.ops l) s K=XO T l s λa=>K (.norm a):=(rfl)
@[simp ↓] theorem apg{a:List (Nat×Nat)}:XC T (.l6 a l) s K=XT T l s λrs b=>wu a rs=true/\K (.norm b):=(rfl)
@[simp ↓] theorem aph{b:List (Nat×Nat)}{es:List ic}:XC T (.mR b l es) s K=XT T l s λrs a=>wu b rs=true/\XO T es a λa=>K (.norm a):=(rfl)
@[simp ↓] theorem apq:XC T (.seq a b) s K=XC T a s (OB T b K):=(rfl)
@[simp ↓] theorem apf{c:X}:XC T (.cond c a b) s K=XB (ev s.env.get c) (XC T a s K) (XC T b s K) .mk:=(rfl)
@[simp ↓] theorem ape{id:Nat}{live:List Nat}:XC T (.block id live a) s K=XC T a s (xS id s.H.length live K):=(rfl)
@[simp ↓] theorem apl{live:List Nat}:XC T (.loop live a) s K=gj T live a s K .mk:=(rfl)
@[simp ↓] theorem apn{rf:Nat}{live:List Nat}{x:X}:XC T (.oB rf live x) s K=sT T rf live x s K .mk:=(rfl)
@[simp ↓] theorem apj{S:List Nat}:XC T (.fz S a) s K=(xp s.marks (qe s.env S)=true/\XC T a (l8 (qe s.env S) s) K):=(rfl)
@[simp ↓] theorem apk{S:List Nat}{x y:List ic}:XC T (.vt S x y) s K=XO T x s λa=>xp a.marks (qe a.env S)=true/\XO T y (l8 (qe a.env S) a) λa=>K (.norm a):=(rfl)
@[simp ↓] theorem api{id:Nat}:XC T (.exit id) s K=K (.exit id s):=(rfl)
@[simp ↓] theorem apo:XC T .ret s K=K (.ret s):=(rfl)
@[simp ↓] theorem awr:OB T b K (.norm s)=XC T b s K:=(rfl)
@[simp ↓] theorem awq{id:Nat}:OB T b K (.exit id s)=K (.exit id s):=(rfl)
@[simp ↓] theorem aws:OB T b K (.ret s)=K (.ret s):=(rfl)
@[simp ↓] theorem U0{id n:Nat}{live:List Nat}:xS id n live K (.norm s)=K (.norm (cut n live s)):=(rfl)
@[simp ↓] theorem arZ{id n:Nat}{live:List Nat}:xS id n live K (.ret s)=K (.ret s):=(rfl)
@[simp ↓] theorem U1{id n:Nat}{live:List Nat}:xS id n live K (.exit id s)=K (.norm (cut n live s)):=by simp[xS,lP]
@[simp ↓] theorem arY{id a n:Nat}{live:List Nat}(h:a≠id):xS id n live K (.exit a s)=K (.exit a s):=by simp[xS,lP,h]
@[simp ↓] theorem atO{rs:List ve}{own n:Nat}{K:D->U->Prop}:zF rs own n K (.ret s)=oA (kill s.marks s.H) (λH=>oA (u5 { s with H:=H } rs) (λds=>K (leave own n H (u4 ds)).1 (leave own n H (u4 ds)).2) .mk) .mk:=(rfl)
@[simp ↓] theorem atN{rs:List ve}{own n:Nat}{K:D->U->Prop}:zF rs own n K (.norm s)=oA (kill s.marks s.H) (λH=>oA (u5 { s with H:=H } rs) (λds=>K (leave own n H (u4 ds)).1 (leave own n H (u4 ds)).2) .mk) .mk:=(rfl)
@[simp ↓] theorem apy{K:St->Prop}:XO T [] s K=K s:=(rfl)
@[simp ↓] theorem apz{K:St->Prop}:XO T (o k op::l) s K=iU T op (some k) s λa=>XO T l a K:=by simp[XO,guardOf]
@[simp ↓] theorem apB{K:St->Prop}:XO T (u op::l) s K=iU T op none s λa=>XO T l a K:=by simp[XO,guardOf]
@[simp ↓] theorem apA{g:Bool}{K:St->Prop}:XO T (og j g k op::l) s K=XG (guardOf s.env.get (some (j,g))) (iU T op (some k) s λa=>XO T l a K) (XO T l { s with env:=(k,.val undef)::s.env } K) .mk:=(rfl)
@[simp ↓] theorem apC{g:Bool}{K:St->Prop}:XO T (ug j g op::l) s K=XG (guardOf s.env.get (some (j,g))) (iU T op none s λa=>XO T l a K) (XO T l s K) .mk:=(rfl)
@[simp ↓] theorem aqr{Q:List Rc->St->Prop}:XT T [] s Q=Q [] s:=(rfl)
@[simp ↓] theorem aqs{Q:List Rc->St->Prop}:XT T (o k op::l) s Q=jS T op (some k) s λrc b=>XT T l b λrs a=>Q (rc::rs) a:=by simp[XT,guardOf]
@[simp ↓] theorem aqu{Q:List Rc->St->Prop}:XT T (u op::l) s Q=jS T op none s λrc b=>XT T l b λrs a=>Q (rc::rs) a:=by simp[XT,guardOf]
@[simp ↓] theorem aqt{g:Bool}{Q:List Rc->St->Prop}:XT T (og j g k op::l) s Q=XG (guardOf s.env.get (some (j,g))) (jS T op (some k) s λrc b=>XT T l b λrs a=>Q (rc::rs) a) (XT T l { s with env:=(k,.val undef)::s.env } λrs a=>Q (⟨[],[]⟩::rs) a) .mk:=(rfl)
@[simp ↓] theorem aqv{g:Bool}{Q:List Rc->St->Prop}:XT T (ug j g op::l) s Q=XG (guardOf s.env.get (some (j,g))) (jS T op none s λrc b=>XT T l b λrs a=>Q (rc::rs) a) (XT T l s λrs a=>Q (⟨[],[]⟩::rs) a) .mk:=(rfl)
@[simp ↓] theorem avk{dst:Option Nat}{K:St->Prop}{d:D}{δ:Dl}:kp s dst K (d,δ)=K { s with env:=put s.env dst d,H:=δ.app s.H (Al.last s.H) }:=(rfl)
@[simp ↓] theorem avl{dst:Option Nat}{R:List Fp}{Q:Rc->St->Prop}{d:D}{δ:Dl}:kt s dst R Q (d,δ)=Q ⟨R,jV s.H.length δ⟩ { s with env:=put s.env dst d,H:=δ.app s.H (Al.last s.H) }:=(rfl)
section
variable{dst:Option Nat}{K:St->Prop}{Q:Rc->St->Prop}
@[simp ↓] theorem aqc{x:X}:iU T (.mv x) dst s K=oA (gN s.env.get s.H s.H.length (.mv x)) (kp s dst K) .mk:=(rfl)
@[simp ↓] theorem aqZ{x:X}:jS T (.mv x) dst s Q=oA (gN s.env.get s.H s.H.length (.mv x)) (kt s dst (gT s.env.get s.H (.mv x)) Q) .mk:=(rfl)
@[simp ↓] theorem aqh{c a b:X}:iU T (.pick c a b) dst s K=oA (gN s.env.get s.H s.H.length (.pick c a b)) (kp s dst K) .mk:=(rfl)
@[simp ↓] theorem aq1{c a b:X}:jS T (.pick c a b) dst s Q=oA (gN s.env.get s.H s.H.length (.pick c a b)) (kt s dst (gT s.env.get s.H (.pick c a b)) Q) .mk:=(rfl)
@[simp ↓] theorem apI{t:TypeId}{x:X}:iU T (.box t x) dst s K=oA (gN s.env.get s.H s.H.length (.box t x)) (kp s dst K) .mk:=(rfl)
@[simp ↓] theorem aqA{t:TypeId}{x:X}:jS T (.box t x) dst s Q=oA (gN s.env.get s.H s.H.length (.box t x)) (kt s dst (gT s.env.get s.H (.box t x)) Q) .mk:=(rfl)
@[simp ↓] theorem apD{t:TypeId}{z:List D}:iU T (.alloc t z) dst s K=oA (gN s.env.get s.H s.H.length (.alloc t z)) (kp s dst K) .mk:=(rfl)
@[simp ↓] theorem aqw{t:TypeId}{z:List D}:jS T (.alloc t z) dst s Q=oA (gN s.env.get s.H s.H.length (.alloc t z)) (kt s dst (gT s.env.get s.H (.alloc t z)) Q) .mk:=(rfl)
@[simp ↓] theorem apJ{z:List D}{ps:List (Nat×Nat×X)}:iU T (.build z ps) dst s K=oA (gN s.env.get s.H s.H.length (.build z ps)) (kp s dst K) .mk:=(rfl)
@[simp ↓] theorem aqB{z:List D}{ps:List (Nat×Nat×X)}:jS T (.build z ps) dst s Q=oA (gN s.env.get s.H s.H.length (.build z ps)) (kt s dst (gT s.env.get s.H (.build z ps)) Q) .mk:=(rfl)
@[simp ↓] theorem apK{t sz:Nat}{z:List D}{n:Nat}{ps:List (Nat×X)}:iU T (.buildSl t sz z n ps) dst s K=oA (gN s.env.get s.H s.H.length (.buildSl t sz z n ps)) (kp s dst K) .mk:=(rfl)
@[simp ↓] theorem aqC{t sz:Nat}{z:List D}{n:Nat}{ps:List (Nat×X)}:jS T (.buildSl t sz z n ps) dst s Q=oA (gN s.env.get s.H s.H.length (.buildSl t sz z n ps)) (kt s dst (gT s.env.get s.H (.buildSl t sz z n ps)) Q) .mk:=(rfl)
@[simp ↓] theorem ap2{x:X}:iU T (.ld1 x) dst s K=oA (gN s.env.get s.H s.H.length (.ld1 x)) (kp s dst K) .mk:=(rfl)
@[simp ↓] theorem aqQ{x:X}:jS T (.ld1 x) dst s Q=oA (gN s.env.get s.H s.H.length (.ld1 x)) (kt s dst (gT s.env.get s.H (.ld1 x)) Q) .mk:=(rfl)
@[simp ↓] theorem ap3{n:Nat}{x:X}:iU T (.ldN n x) dst s K=oA (gN s.env.get s.H s.H.length (.ldN n x)) (kp s dst K) .mk:=(rfl)
@[simp ↓] theorem aqR{n:Nat}{x:X}:jS T (.ldN n x) dst s Q=oA (gN s.env.get s.H s.H.length (.ldN n x)) (kt s dst (gT s.env.get s.H (.ldN n x)) Q) .mk:=(rfl)
@[simp ↓] theorem aqo{a x:X}:iU T (.st1 a x) dst s K=oA (gN s.env.get s.H s.H.length (.st1 a x)) (kp s dst K) .mk:=(rfl)
@[simp ↓] theorem aq6{a x:X}:jS T (.st1 a x) dst s Q=oA (gN s.env.get s.H s.H.length (.st1 a x)) (kt s dst (gT s.env.get s.H (.st1 a x)) Q) .mk:=(rfl)
@[simp ↓] theorem aqp{n:Nat}{a x:X}:iU T (.stN n a x) dst s K=oA (gN s.env.get s.H s.H.length (.stN n a x)) (kp s dst K) .mk:=(rfl)
@[simp ↓] theorem aq7{n:Nat}{a x:X}:jS T (.stN n a x) dst s Q=oA (gN s.env.get s.H s.H.length (.stN n a x)) (kt s dst (gT s.env.get s.H (.stN n a x)) Q) .mk:=(rfl)
@[simp ↓] theorem aqg{x:X}:iU T (.nilck x) dst s K=oA (gN s.env.get s.H s.H.length (.nilck x)) (kp s dst K) .mk:=(rfl)
@[simp ↓] theorem aq0{x:X}:jS T (.nilck x) dst s Q=oA (gN s.env.get s.H s.H.length (.nilck x)) (kt s dst (gT s.env.get s.H (.nilck x)) Q) .mk:=(rfl)
@[simp ↓] theorem apG{op:BinOp}{x y:X}:iU T (.arith op x y) dst s K=oA (gN s.env.get s.H s.H.length (.arith op x y)) (kp s dst K) .mk:=(rfl)
@[simp ↓] theorem aqy{op:BinOp}{x y:X}:jS T (.arith op x y) dst s Q=oA (gN s.env.get s.H s.H.length (.arith op x y)) (kt s dst (gT s.env.get s.H (.arith op x y)) Q) .mk:=(rfl)
@[simp ↓] theorem apU{a:Bool}{ls:List mB}{neg:Bool}{x y:X}:iU T (.eqS a ls neg x y) dst s K=oA (gN s.env.get s.H s.H.length (.eqS a ls neg x y)) (kp s dst K) .mk:=(rfl)
@[simp ↓] theorem aqI{a:Bool}{ls:List mB}{neg:Bool}{x y:X}:jS T (.eqS a ls neg x y) dst s Q=oA (gN s.env.get s.H s.H.length (.eqS a ls neg x y)) (kt s dst (gT s.env.get s.H (.eqS a ls neg x y)) Q) .mk:=(rfl)
@[simp ↓] theorem aqq{op:UnOp}{x:X}:iU T (.un op x) dst s K=oA (gN s.env.get s.H s.H.length (.un op x)) (kp s dst K) .mk:=(rfl)
@[simp ↓] theorem aq8{op:UnOp}{x:X}:jS T (.un op x) dst s Q=oA (gN s.env.get s.H s.H.length (.un op x)) (kt s dst (gT s.env.get s.H (.un op x)) Q) .mk:=(rfl)
@[simp ↓] theorem apQ{k:IntKind}{x:X}:iU T (.conv k x) dst s K=oA (gN s.env.get s.H s.H.length (.conv k x)) (kp s dst K) .mk:=(rfl)
@[simp ↓] theorem aqG{k:IntKind}{x:X}:jS T (.conv k x) dst s Q=oA (gN s.env.get s.H s.H.length (.conv k x)) (kt s dst (gT s.env.get s.H (.conv k x)) Q) .mk:=(rfl)
@[simp ↓] theorem apH{x:X}:iU T (.b2s x) dst s K=oA (gN s.env.get s.H s.H.length (.b2s x)) (kp s dst K) .mk:=(rfl)
@[simp ↓] theorem aqz{x:X}:jS T (.b2s x) dst s Q=oA (gN s.env.get s.H s.H.length (.b2s x)) (kt s dst (gT s.env.get s.H (.b2s x)) Q) .mk:=(rfl)
@[simp ↓] theorem ap9{fn:Fn}{first a:List X}:iU T (.mkfn fn first a) dst s K=oA (gN s.env.get s.H s.H.length (.mkfn fn first a)) (kp s dst K) .mk:=(rfl)
@[simp ↓] theorem aqW{fn:Fn}{first a:List X}:jS T (.mkfn fn first a) dst s Q=oA (gN s.env.get s.H s.H.length (.mkfn fn first a)) (kt s dst (gT s.env.get s.H (.mkfn fn first a)) Q) .mk:=(rfl)
@[simp ↓] theorem aqa{kk:KK}:iU T (.mkmap kk) dst s K=oA (gN s.env.get s.H s.H.length (.mkmap kk)) (kp s dst K) .mk:=(rfl)
@[simp ↓] theorem aqX{kk:KK}:jS T (.mkmap kk) dst s Q=oA (gN s.env.get s.H s.H.length (.mkmap kk)) (kt s dst (gT s.env.get s.H (.mkmap kk)) Q) .mk:=(rfl)
@[simp ↓] theorem aqb{t sz bytes:Nat}{z:List D}{l c:X}:iU T (.mksl t sz bytes z l c) dst s K=oA (gN s.env.get s.H s.H.length (.mksl t sz bytes z l c)) (kp s dst K) .mk:=(rfl)
@[simp ↓] theorem aqY{t sz bytes:Nat}{z:List D}{l c:X}:jS T (.mksl t sz bytes z l c) dst s Q=oA (gN s.env.get s.H s.H.length (.mksl t sz bytes z l c)) (kt s dst (gT s.env.get s.H (.mksl t sz bytes z l c)) Q) .mk:=(rfl)
@[simp ↓] theorem aqk{sz:Nat}{x:X}{lo hi:Option X}:iU T (.slc sz x lo hi) dst s K=oA (gN s.env.get s.H s.H.length (.slc sz x lo hi)) (kp s dst K) .mk:=(rfl)
@[simp ↓] theorem aq2{sz:Nat}{x:X}{lo hi:Option X}:jS T (.slc sz x lo hi) dst s Q=oA (gN s.env.get s.H s.H.length (.slc sz x lo hi)) (kt s dst (gT s.env.get s.H (.slc sz x lo hi)) Q) .mk:=(rfl)
@[simp ↓] theorem aql{sz:Nat}{x:X}{lo:Option X}{hi mx:X}:iU T (.slc3 sz x lo hi mx) dst s K=oA (gN s.env.get s.H s.H.length (.slc3 sz x lo hi mx)) (kp s dst K) .mk:=(rfl)
@[simp ↓] theorem aq3{sz:Nat}{x:X}{lo:Option X}{hi mx:X}:jS T (.slc3 sz x lo hi mx) dst s Q=oA (gN s.env.get s.H s.H.length (.slc3 sz x lo hi mx)) (kt s dst (gT s.env.get s.H (.slc3 sz x lo hi mx)) Q) .mk:=(rfl)
@[simp ↓] theorem aqm{sz n:Nat}{x:X}{lo hi:Option X}:iU T (.slcArr sz n x lo hi) dst s K=oA (gN s.env.get s.H s.H.length (.slcArr sz n x lo hi)) (kp s dst K) .mk:=(rfl)
@[simp ↓] theorem aq4{sz n:Nat}{x:X}{lo hi:Option X}:jS T (.slcArr sz n x lo hi) dst s Q=oA (gN s.env.get s.H s.H.length (.slcArr sz n x lo hi)) (kt s dst (gT s.env.get s.H (.slcArr sz n x lo hi)) Q) .mk:=(rfl)
@[simp ↓] theorem aqn{x:X}{lo hi:Option X}:iU T (.slcS x lo hi) dst s K=oA (gN s.env.get s.H s.H.length (.slcS x lo hi)) (kp s dst K) .mk:=(rfl)
@[simp ↓] theorem aq5{x:X}{lo hi:Option X}:jS T (.slcS x lo hi) dst s Q=oA (gN s.env.get s.H s.H.length (.slcS x lo hi)) (kt s dst (gT s.env.get s.H (.slcS x lo hi)) Q) .mk:=(rfl)
@[simp ↓] theorem apX{off:Nat}{x:X}:iU T (.fieldA off x) dst s K=oA (gN s.env.get s.H s.H.length (.fieldA off x)) (kp s dst K) .mk:=(rfl)
@[simp ↓] theorem aqL{off:Nat}{x:X}:jS T (.fieldA off x) dst s Q=oA (gN s.env.get s.H s.H.length (.fieldA off x)) (kt s dst (gT s.env.get s.H (.fieldA off x)) Q) .mk:=(rfl)
@[simp ↓] theorem apW{off n:Nat}{a:Bool}{x:X}:iU T (.field off n a x) dst s K=oA (gN s.env.get s.H s.H.length (.field off n a x)) (kp s dst K) .mk:=(rfl)
@[simp ↓] theorem aqK{off n:Nat}{a:Bool}{x:X}:jS T (.field off n a x) dst s Q=oA (gN s.env.get s.H s.H.length (.field off n a x)) (kt s dst (gT s.env.get s.H (.field off n a x)) Q) .mk:=(rfl)
@[simp ↓] theorem apZ{sz:Nat}{x i:X}:iU T (.idxA sz x i) dst s K=oA (gN s.env.get s.H s.H.length (.idxA sz x i)) (kp s dst K) .mk:=(rfl)
@[simp ↓] theorem aqN{sz:Nat}{x i:X}:jS T (.idxA sz x i) dst s Q=oA (gN s.env.get s.H s.H.length (.idxA sz x i)) (kt s dst (gT s.env.get s.H (.idxA sz x i)) Q) .mk:=(rfl)
@[simp ↓] theorem ap0{sz n:Nat}{x i:X}:iU T (.idxArr sz n x i) dst s K=oA (gN s.env.get s.H s.H.length (.idxArr sz n x i)) (kp s dst K) .mk:=(rfl)
@[simp ↓] theorem aqO{sz n:Nat}{x i:X}:jS T (.idxArr sz n x i) dst s Q=oA (gN s.env.get s.H s.H.length (.idxArr sz n x i)) (kt s dst (gT s.env.get s.H (.idxArr sz n x i)) Q) .mk:=(rfl)
@[simp ↓] theorem apY{sz n:Nat}{a:Bool}{x i:X}:iU T (.idx sz n a x i) dst s K=oA (gN s.env.get s.H s.H.length (.idx sz n a x i)) (kp s dst K) .mk:=(rfl)
@[simp ↓] theorem aqM{sz n:Nat}{a:Bool}{x i:X}:jS T (.idx sz n a x i) dst s Q=oA (gN s.env.get s.H s.H.length (.idx sz n a x i)) (kt s dst (gT s.env.get s.H (.idx sz n a x i)) Q) .mk:=(rfl)
@[simp ↓] theorem ap1{x i:X}:iU T (.idxStr x i) dst s K=oA (gN s.env.get s.H s.H.length (.idxStr x i)) (kp s dst K) .mk:=(rfl)
@[simp ↓] theorem aqP{x i:X}:jS T (.idxStr x i) dst s Q=oA (gN s.env.get s.H s.H.length (.idxStr x i)) (kt s dst (gT s.env.get s.H (.idxStr x i)) Q) .mk:=(rfl)
@[simp ↓] theorem ap5{kk:KK}{z:D}{ok:Bool}{m k:X}:iU T (.lookup kk z ok m k) dst s K=oA (gN s.env.get s.H s.H.length (.lookup kk z ok m k)) (kp s dst K) .mk:=(rfl)
@[simp ↓] theorem aqT{kk:KK}{z:D}{ok:Bool}{m k:X}:jS T (.lookup kk z ok m k) dst s Q=oA (gN s.env.get s.H s.H.length (.lookup kk z ok m k)) (kt s dst (gT s.env.get s.H (.lookup kk z ok m k)) Q) .mk:=(rfl)
@[simp ↓] theorem ap7{kk:KK}{m k v:X}:iU T (.mapUpd kk m k v) dst s K=oA (gN s.env.get s.H s.H.length (.mapUpd kk m k v)) (kp s dst K) .mk:=(rfl)
@[simp ↓] theorem aqU{kk:KK}{m k v:X}:jS T (.mapUpd kk m k v) dst s Q=oA (gN s.env.get s.H s.H.length (.mapUpd kk m k v)) (kt s dst (gT s.env.get s.H (.mapUpd kk m k v)) Q) .mk:=(rfl)
@[simp ↓] theorem apV{x:X}{i:Nat}:iU T (.ext x i) dst s K=oA (gN s.env.get s.H s.H.length (.ext x i)) (kp s dst K) .mk:=(rfl)
@[simp ↓] theorem aqJ{x:X}{i:Nat}:jS T (.ext x i) dst s Q=oA (gN s.env.get s.H s.H.length (.ext x i)) (kt s dst (gT s.env.get s.H (.ext x i)) Q) .mk:=(rfl)
@[simp ↓] theorem apL{f:FuncId}{args:List X}:iU T (.call f args) dst s K=gx T f (args.map (ev s.env.get)) dst s K .mk:=(rfl)
@[simp ↓] theorem aqD{f:FuncId}{args:List X}:jS T (.call f args) dst s Q=je T f (args.map (ev s.env.get)) (gT s.env.get s.H (.call f args)) dst s Q .mk:=(rfl)
@[simp ↓] theorem apM{f:FuncId}{args:List X}:iU T (.callN f args) dst s K=gx T f (args.map (ev s.env.get)) dst s K .mk:=(rfl)
@[simp ↓] theorem aqE{f:FuncId}{args:List X}:jS T (.callN f args) dst s Q=uF T f (args.map (ev s.env.get)) (gT s.env.get s.H (.callN f args)) dst s Q .mk:=(rfl)
@[simp ↓] theorem apN{f:X}{args:List X}:iU T (.callv f args) dst s K=wN T (ev s.env.get f) (args.map (ev s.env.get)) dst s K .mk:=(rfl)
@[simp] theorem aps{k:FuncId}{first cap args:List D}:wN T (.fn (.func k) first cap) args dst s K .mk=gx T k (first++args++cap) dst s K .mk:=by show oA (some (k,first++args++cap)) (λp=>gx T p.1 p.2 dst s K .mk) .mk=_;simp only[Aw]
@[simp] theorem apt{v:Nat}{args:List D}:wN T (.iT v) args dst s K .mk=na T v args dst s K .mk:=(rfl)
@[simp ↓] theorem aqF{f:X}{args:List X}:jS T (.callv f args) dst s Q=oA (kK s.env.get (.callv f args)) (λp=>je T p.1 p.2 (gT s.env.get s.H (.callv f args)) dst s Q .mk) .mk:=(rfl)
@[simp ↓] theorem apE{t sz bytes:Nat}{x y:X}:iU T (.app t sz bytes x y) dst s K=oA (gN s.env.get s.H s.H.length (.app t sz bytes x y)) (kp s dst K) .mk:=(rfl)
@[simp ↓] theorem aqx{t sz bytes:Nat}{x y:X}:jS T (.app t sz bytes x y) dst s Q=oA (gN s.env.get s.H s.H.length (.app t sz bytes x y)) (kt s dst (gT s.env.get s.H (.app t sz bytes x y)) Q) .mk:=(rfl)
@[simp ↓] theorem apR{sz:Nat}{x y:X}:iU T (.copy sz x y) dst s K=oA (gN s.env.get s.H s.H.length (.copy sz x y)) (kp s dst K) .mk:=(rfl)
@[simp ↓] theorem aqH{sz:Nat}{x y:X}:jS T (.copy sz x y) dst s Q=oA (gN s.env.get s.H s.H.length (.copy sz x y)) (kt s dst (gT s.env.get s.H (.copy sz x y)) Q) .mk:=(rfl)
@[simp ↓] theorem ap4{k:AV}{x:X}:iU T (.len k x) dst s K=oA (gN s.env.get s.H s.H.length (.len k x)) (kp s dst K) .mk:=(rfl)
@[simp ↓] theorem aqS{k:AV}{x:X}:jS T (.len k x) dst s Q=oA (gN s.env.get s.H s.H.length (.len k x)) (kt s dst (gT s.env.get s.H (.len k x)) Q) .mk:=(rfl)
@[simp ↓] theorem ap8{a:Bool}{xs:List X}:iU T (.minmax a xs) dst s K=oA (gN s.env.get s.H s.H.length (.minmax a xs)) (kp s dst K) .mk:=(rfl)
@[simp ↓] theorem aqV{a:Bool}{xs:List X}:jS T (.minmax a xs) dst s Q=oA (gN s.env.get s.H s.H.length (.minmax a xs)) (kt s dst (gT s.env.get s.H (.minmax a xs)) Q) .mk:=(rfl)
@[simp ↓] theorem aqf{neg:Bool}{x:X}:iU T (.nilS neg x) dst s K=oA (mz s.env.get s.H s.H.length (.nilS neg x)) (kp s dst K) .mk:=(rfl)
@[simp ↓] theorem apO{x:X}:iU T (.capE x) dst s K=oA (mz s.env.get s.H s.H.length (.capE x)) (kp s dst K) .mk:=(rfl)
@[simp ↓] theorem apF{t sz bytes:Nat}{z:List D}{x n:X}:iU T (.appZ t sz bytes z x n) dst s K=oA (mz s.env.get s.H s.H.length (.appZ t sz bytes z x n)) (kp s dst K) .mk:=(rfl)
@[simp ↓] theorem apP{sz:Nat}{z:List D}{x:X}:iU T (.clr sz z x) dst s K=oA (mz s.env.get s.H s.H.length (.clr sz z x)) (kp s dst K) .mk:=(rfl)
@[simp ↓] theorem aqj{x:X}:iU T (.rangeS x) dst s K=oA (mz s.env.get s.H s.H.length (.rangeS x)) (kp s dst K) .mk:=(rfl)
@[simp ↓] theorem aqe{x:X}:iU T (.nextS x) dst s K=oA (mz s.env.get s.H s.H.length (.nextS x)) (kp s dst K) .mk:=(rfl)
@[simp ↓] theorem aqi{x:X}:iU T (.rangeM x) dst s K=oA (mz s.env.get s.H s.H.length (.rangeM x)) (kp s dst K) .mk:=(rfl)
@[simp ↓] theorem aqd{x:X}:iU T (.nextM x) dst s K=uE (ev s.env.get x) dst s K .mk:=(rfl)
@[simp ↓] theorem ap6{kk:KK}{z:D}{m k:X}:iU T (.mapEnt kk z m k) dst s K=oA (mz s.env.get s.H s.H.length (.mapEnt kk z m k)) (kp s dst K) .mk:=(rfl)
@[simp ↓] theorem apS{m k x:X}:iU T (.entSt m k x) dst s K=oA (mz s.env.get s.H s.H.length (.entSt m k x)) (kp s dst K) .mk:=(rfl)
@[simp ↓] theorem apT{x:X}:iU T (.entry x) dst s K=oA (mz s.env.get s.H s.H.length (.entry x)) (kp s dst K) .mk:=(rfl)
end
end
def wi(n:Nat)(live keys:List Nat)(J:Env->U->List Nat->Bool->Prop)(K:iY):iY:=λo=>match o with
 | .norm s=>J (forget keys (cut n live s).env) (cut n live s).H (cut n live s).marks (cut n live s).iD
 | o=>K o
@[simp ↓] theorem Zk{n:Nat}{live keys:List Nat}{J:Env->U->List Nat->Bool->Prop}{K:iY}{s:St}:wi n live keys J K (.norm s)=J (forget keys (cut n live s).env) (cut n live s).H (cut n live s).marks (cut n live s).iD:=(rfl)
@[simp ↓] theorem av0{n:Nat}{live keys:List Nat}{J:Env->U->List Nat->Bool->Prop}{K:iY}{id:Nat}{s:St}:wi n live keys J K (.exit id s)=K (.exit id s):=(rfl)
@[simp ↓] theorem av2{n:Nat}{live keys:List Nat}{J:Env->U->List Nat->Bool->Prop}{K:iY}{s:St}:wi n live keys J K (.ret s)=K (.ret s):=(rfl)
theorem gj.i{T:iB}{live:List Nat}{a:IR}{s:St}{K:iY}{α:Type}(keys:List Nat)(j:(keys.all λk=>live.contains k)=true)(E:α->Env)(f:α->U)(P:α->Prop)(c:α->Nat)(d:α)
  (h0:P d) (p:forget keys s.env=E d) (n:s.H=f d)
  (h:∀x,P x->XC T a { env:=E x,H:=f x,marks:=s.marks,iD:=s.iD } (wi s.H.length live keys (λe H m r=>∃b,e=E b/\H=f b/\m=s.marks/\r=s.iD/\c b<c x/\P b) K)):gj T live a s K .mk:=by
 refine Wc.loop (λm g=>∃x,P x/\m=c x/\({ g with env:=forget keys g.env }:St) = { env:=E x,H:=f x,marks:=s.marks,iD:=s.iD }) (c d) ⟨d,h0,rfl,?_⟩ ?_
 .dsimp only;rw[WN j,p];rw[<-n]
 .rintro m g ⟨x,hP,rfl,l⟩;refine Ev.Gy keys ?_;rw[l];refine(XC.wc (h x hP)).mono λo i=>?_
  cases o with
  | norm v=>
   obtain⟨b,t,z,y,w,u,h1⟩:=i;refine⟨c b,u,b,h1,rfl,?_⟩;rw[t];generalize cut s.H.length live v=q at *;cases q;simp_all
  | exit=>exact i
  | ret=>exact i
theorem gj.j{T:iB}{live:List Nat}{a:IR}{s:St}{K:iY}{α:Type}(b:α)(E:α->Env)(d:α->U)(P:α->Prop)(f:α->Nat)
  (h0:P b) (j:forget ((E b).map (·.1)) s.env=E b) (i:s.H=d b) (g:(((E b).map (·.1)).all λk=>live.contains k)=true)
  (h:∀x,P x->XC T a { env:=E x,H:=d x,marks:=s.marks,iD:=s.iD } (wi s.H.length live ((E b).map (·.1)) (λe H m r=>∃c,e=E c/\H=d c/\m=s.marks/\r=s.iD/\f c<f x/\P c) K)):gj T live a s K .mk:=
 gj.i ((E b).map (·.1)) g E d P f b h0 j i h
@[simp] theorem sY{n:Nat}{live:List Nat}{env:Env}{H:U}{m:List Nat}{r:Bool}(h:H.length<=n):cut n live { env:=env,H:=H,marks:=m,iD:=r } = { env:=forget live env,H:=H,marks:=m,iD:=r }:=VE h
def Is(x:D):D->U->Prop:=λd Hn=>d=x/\Hn = []
@[simp] theorem ao1(x d:D)(H:U):Is x d H=(d=x/\H = []):=rfl
@[simp] theorem axH(x:Bool)(a b:D):Cp (.b x) a b=some (cond x a b):=by cases x<;>rfl
@[simp] theorem awR(c:Bool)(a b d e:D)(P:D->Prop):oA (Cp (bif c then a else b) d e) P .mk=X2 c (oA (Cp a d e) P .mk) (oA (Cp b d e) P .mk) .mk:=by cases c<;>simp
@[simp] theorem Y9{n:Nat}{H:U}{d:D}(h:H.length<=n)(own:Nat):leave own n H d=(d,H):=by unfold leave;rw[if_pos (.inl h)]
@[simp] theorem avy{n:Nat}{H:U}{d:D}:leave 4 n H d=(d,H):=by unfold leave;rw[if_pos (.inr rfl)]
section
variable{P:D->Prop}{a b:Int}
@[simp] theorem awA:oA (jU .add .i64 a b) P .mk=(oq (a+b)/\P (.i (a+b))):=by simp only[jU,if_true];rw[Cl,Aw]
@[simp] theorem awW:oA (jU .sub .i64 a b) P .mk=(oq (a-b)/\P (.i (a-b))):=by simp only[jU,if_true];rw[Cl,Aw]
@[simp] theorem awQ:oA (jU .mul .i64 a b) P .mk=(oq (a*b)/\P (.i (a*b))):=by simp only[jU,if_true];rw[Cl,Aw]
end
def uq(a b:Int):Int:=IntKind.i64.wrap (a.tdiv b)
def gA(a b:Int):Int:=a.tmod b
theorem o9{n:Int}(h:oq n):IntKind.i64.wrap n=n:=by unfold oq at h;simp only[IntKind.wrap,IntKind.bits,IntKind.signed];simp;omega
theorem uu{a b:Int}(h0:0<=a)(h1:a<=9223372036854775807)(c:0<b):uq a b=a / b:=by unfold uq;rw[Int.tdiv_eq_ediv_of_nonneg h0,o9];have e:0<=a / b:=Int.ediv_nonneg h0 (by omega);have d:a / b<=a:=Int.ediv_le_self b h0;exact iy
theorem jH{a b:Int}(h0:0<=a):gA a b=a % b:=Int.tmod_eq_emod_of_nonneg h0
section
variable{P:D->Prop}{a b:Int}{t:Tag P}
@[simp] theorem awS:oA (jU .quo .i64 a b) P t=(b≠0/\P (.i (uq a b))):=by
 cases t;simp only[jU]
 by_cases h:b=0<;>simp[h,uq]
@[simp] theorem awU:oA (jU .rem .i64 a b) P t=(b≠0/\P (.i (gA a b))):=by
 cases t;simp only[jU]
 by_cases h:b=0<;>simp[h,gA]
end
@[simp] theorem auK(n:Int):oq n=(-9223372036854775808<=n/\n<=9223372036854775807):=rfl
def gt{α:Type}[Inhabited α](l:List α)(n:Int):α:=l.getD n.toNat default
theorem gy{α:Type}[Inhabited α]{l:List α}{n:Int}(h0:0<=n)(h:n<l.length):gt l n∈l:=by unfold gt;rw[List.getD_eq_getElem?_getD,List.getElem?_eq_getElem (by omega),aZ];exact bT _
theorem jg{α:Type}[Inhabited α]{l:List α}{n:Int}(h0:0<=n)(h:n<l.length):gt l n=l[n.toNat]:=by unfold gt;rw[List.getD_eq_getElem?_getD,List.getElem?_eq_getElem (by omega),aZ]
theorem Bp{α:Type}[Inhabited α]{l:List α}{n:Nat}(h:n<l.length):gt l n=l[n]:=jg (by omega) (by omega)
theorem jq{α:Type}[Inhabited α]{l:List α}{n:Int}(h0:0<=n)(h:n<l.length):l.take (n+1).toNat=l.take n.toNat ++ [gt l n]:=by rw[jg h0 h,<-List.take_succ_eq_append_getElem (by omega)];congr 1;omega
theorem oc{α:Type}[Inhabited α]{l:List α}{n:Int}(h0:0<=n)(h:n<l.length):l.drop n.toNat=gt l n::l.drop (n.toNat+1):=by rw[jg h0 h];exact bK (by omega)
theorem wm{α:Type}[Inhabited α]{l:List α}{x:α}:x∈l↔∃n:Int,0<=n/\n<l.length/\gt l n=x:=by
 constructor
 .intro h;obtain⟨i,hi,e⟩:=List.getElem_of_mem h;exact⟨i,by omega,by omega,by rw[Bp hi,e]⟩
 .rintro⟨n,h0,h1,rfl⟩;exact gy h0 h1
theorem ln{α:Type}{l:List α}{n:Int}(h:(l.length:Int)<=n):l.take n.toNat=l:=af (by omega)
section
variable{α:Type}[Inhabited α]{sz:Nat}{f:α->List D}{P:D->Prop}{k:IntKind}
theorem yL{l:List α}{n:Int}:oA (mH sz (.sl sz (l.map f)) (.val (.int k n))) P .mk=((0<=n/\n<l.length)/\P (.gu (f (gt l n)))):=by
 simp only[mH,List.length_map,true_and,Cl,Aw];refine propext ⟨λ⟨h,a⟩=>⟨h,?_⟩,λ⟨h,a⟩=>⟨h,?_⟩⟩
 .rw[List.getD_eq_getElem?_getD,au,List.getElem?_eq_getElem (by omega),aH,aZ]at a;unfold gt;rw[List.getD_eq_getElem?_getD,List.getElem?_eq_getElem (by omega),aZ];exact a
 .rw[List.getD_eq_getElem?_getD,au,List.getElem?_eq_getElem (by omega),aH,aZ];unfold gt at a;rw[List.getD_eq_getElem?_getD,List.getElem?_eq_getElem (by omega),aZ]at a;exact a
@[simp] theorem awG{l:List α}{n:Int}:oA (mH sz (.sl sz (l.map f)) (.val (.int k n))) P .mk=((0<=n/\n<l.length)/\P (.gu (f (gt l n)))):=yL
@[simp] theorem awF{l:List Int}{n:Int}:oA (mH 1 (dI l) (.val (.int k n))) P .mk=((0<=n/\n<l.length)/\P (.gu [.i (gt l n)])):=by unfold dI;rw[yL,DB]
@[simp] theorem awL{l:List Pos}{n:Int}:oA (mH 5 (gZ l) (.val (.int k n))) P .mk=((0<=n/\n<l.length)/\P (.gu (gt l n).cells)):=yL
@[simp] theorem awK{l:List fZ}{n:Int}:oA (mH 2 (gY l) (.val (.int k n))) P .mk=((0<=n/\n<l.length)/\P (.gu [.i (gt l n).1,.i (gt l n).2])):=by unfold gY;rw[yL,Bi]
@[simp] theorem awI{l:List α}{n:Int}:oA (mH sz (dN sz f l) (.val (.int k n))) P .mk=((0<=n/\n<l.length)/\P (.gu (f (gt l n)))):=by
 cases l with
 | nil=>
  simp only[dN,mH,ZN,cW];refine propext ⟨λh=>h.elim,λ⟨h,_⟩=>?_⟩;have:=h.1;have:=h.2;simp at this;omega
 | cons a l=>exact yL
end
def IP(H:U)(k:Nat)(ρ:Nat->Option Nat)(v g sz off n:Nat):Option Nat->D
 | some v'=>.fY v' g sz off n
 | none=>match rowAt H v g with
  | some (_,cs)=>if (off+n)*sz<=cs.length then .sl sz (chunks sz n ((cs.drop (off*sz)).map (gq ρ H k)))else .any
  | none=>.any
@[simp] theorem TE(ρ:Nat->Option Nat)(H:U)(k v g sz off n:Nat):gq ρ H (k+1) (.fY v g sz off n)=IP H k ρ v g sz off n (ρ v):=by rw[gq,if_neg (by simp[closed])];unfold IP;rfl
@[simp] theorem anT(H:U)(k:Nat)(ρ:Nat->Option Nat)(v g sz off n v':Nat):IP H k ρ v g sz off n (some v') = .fY v' g sz off n:=rfl
def IQ(H:U)(k:Nat)(ρ:Nat->Option Nat)(v g off:Nat):Option Nat->D
 | some v'=>.ptr v' g off
 | none=>match rowAt H v g with
  | some (_,cs)=>.gu ((cs.drop off).map (gq ρ H k))
  | none=>.any
@[simp] theorem anY(ρ:Nat->Option Nat)(H:U)(k v g off:Nat):gq ρ H (k+1) (.ptr v g off)=IQ H k ρ v g off (ρ v):=by rw[gq,if_neg (by simp[closed])];unfold IQ;rfl
@[simp] theorem anU(H:U)(k:Nat)(ρ:Nat->Option Nat)(v g off v':Nat):IQ H k ρ v g off (some v') = .ptr v' g off:=rfl
def O4:Option Nat->D
 | some v'=>.gD v'
 | none=>.any
@[simp] theorem anX(ρ:Nat->Option Nat)(H:U)(k v:Nat):gq ρ H (k+1) (.gD v)=O4 (ρ v):=by rw[gq,if_neg (by simp[closed])];unfold O4;rfl
@[simp] theorem anS(v:Nat):O4 (some v) = .gD v:=rfl
@[simp] theorem ayo:O4 none = .any:=rfl
@[simp] theorem ayy{ρ:Nat->Option Nat}{H:U}{k:Nat}{d:D}(h:closed d=true):gq ρ H k d=d:=qt h
@[simp] theorem Vk(cs:List D):closed (.agg cs)=gF cs:=by simp only[closed]
@[simp] theorem atk(cs:List D):closed (.tup cs)=gF cs:=by simp only[closed]
@[simp] theorem atf(cs:List D):closed (.gu cs)=gF cs:=by simp only[closed]
@[simp] theorem atl(v:Value):closed (.val v)=true:=by simp only[closed]
@[simp] theorem ate:closed .gg=true:=by simp only[closed]
@[simp] theorem Vm(f:Fn)(a b:List D):closed (.fn f a b)=(gF a&&gF b):=by simp only[closed]
@[simp] theorem ati(v g sz off n:Nat):closed (.fY v g sz off n)=false:=by simp only[closed]
@[simp] theorem atj(v g o:Nat):closed (.ptr v g o)=false:=by simp only[closed]
@[simp] theorem ath(v:Nat):closed (.gD v)=false:=by simp only[closed]
@[simp] theorem atm(v:Nat):closed (.iT v)=false:=by simp only[closed]
theorem Cd{ρ:Nat->Option Nat}{H:U}{k:Nat}{cs:List D}(h:gF cs=true):cs.map (gq ρ H k)=cs:=by
 conv=>rhs;rw[<-bf cs]
 exact aw λd a=>qt (mo h d a)
@[simp] theorem anW(ρ:Nat->Option Nat)(H:U)(k:Nat)(cs:List D):gq ρ H (k+1) (.agg cs) = .agg (cs.map (gq ρ H k)):=by
 by_cases h:closed (.agg cs)=true
 .rw[qt h,Cd (by simpa using h)]
 .rw[gq,if_neg h]
@[simp] theorem anZ(ρ:Nat->Option Nat)(H:U)(k:Nat)(cs:List D):gq ρ H (k+1) (.tup cs) = .tup (cs.map (gq ρ H k)):=by
 by_cases h:closed (.tup cs)=true
 .rw[qt h,Cd (by simpa using h)]
 .rw[gq,if_neg h]
@[simp] theorem ayz(ρ:Nat->Option Nat)(H:U)(k:Nat)(c:Bool)(a b:D):gq ρ H k (bif c then a else b)=bif c then gq ρ H k a else gq ρ H k b:=by cases c<;>rfl
theorem TC{ρ:Nat->Option Nat}{H:U}{k:Nat}{cs:List D}(h:gF cs=true):cs.map (gq ρ H (k+1))=cs:=by
 conv=>rhs;rw[<-bf cs]
 exact aw λd a=>qt (mo h d a)
theorem PT{α:Type}{sz:Nat}{f:α->List D}(b:∀a,(f a).length=sz):∀l:List α,chunks sz l.length (l.map f).flatten=l.map f
 | []=>rfl
 | a::l=>by simp only[aJ,chunks,List.map_cons,a7];rw[aV (by rw[b];exact Nat.le_refl _),af (by rw[b];exact Nat.le_refl _),eI (by rw[b];exact Nat.le_refl _),bB (by rw[b];exact Nat.le_refl _),bq,PT b l]
theorem aha{α:Type}{sz:Nat}{f:α->List D}(c:∀a,(f a).length=sz)(l:List α):(l.map f).flatten.length=l.length*sz:=by
 induction l with
 | nil=>simp
 | cons a l b=>simp only[List.map_cons,a7,ak,c,b,aJ,cA];omega
theorem MK{a b:List D}:gF (a++b)=(gF a&&gF b):=by
 induction a with
 | nil=>rfl
 | cons d a c=>simp only[bU,gF,c,Bool.and_assoc]
theorem acE{α:Type}{f:α->List D}(c:∀a,gF (f a)=true)(l:List α):gF (l.map f).flatten=true:=by
 induction l with
 | nil=>rfl
 | cons a l b=>simp only[List.map_cons,a7,MK,c,b];rfl
class Fl {α:Type} (f:α->List D) (sz:outParam Nat):Prop where
 len:∀a,(f a).length=sz
 cl:∀a,gF (f a)=true
instance:Fl f1 1:=⟨λ_=>by simp,λ_=>by simp[gF]⟩
instance:Fl fB 1:=⟨λ_=>by simp,λ_=>by simp[gF]⟩
instance:Fl fS 2:=⟨λ_=>by simp,λ_=>by simp[gF]⟩
instance:Fl fP 1:=⟨λ_=>by simp,λ_=>by simp[gF]⟩
instance:Fl fI 1:=⟨λ_=>by simp,λ_=>by simp[gF]⟩
instance:Fl Pos.cells 5:=⟨λ_=>rfl,λ_=>by simp⟩
instance:Fl Kind.cells 3:=⟨λ_=>rfl,λ_=>by simp⟩
instance:Fl Clause.cells 4:=⟨λ_=>rfl,λ_=>by simp⟩
section
variable{α:Type}{f:α->List D}{sz:Nat}
@[simp] theorem acz:cl f [] = []:=by rw[oC];rfl
@[simp] theorem A3(a b:List α):cl f a++cl f b=cl f (a++b):=by simp[oC]
theorem q'(l:List α)(a:α):cl f l++f a=cl f (l ++ [a]):=by simp[oC]
theorem nM(l:List α)(a:α):cl f (a::l)=f a++cl f l:=by simp[oC]
variable [F:Fl f sz]
include F
@[simp] theorem qJ(l:List α):(cl f l).length=l.length*sz:=by rw[oC];exact aha F.len l
theorem xW:∀(l:List α) (n:Nat),(cl f l).take (n*sz)=cl f (l.take n)
 | [],n=>by simp
 | a::l,0=>by simp
 | a::l,n+1=>by rw[nM,List.take_succ_cons,nM,<-xW l n,cA,List.take_append,F.len,af (by rw[F.len];omega)];congr 2;omega
theorem uK:∀(l:List α) (n:Nat),(cl f l).drop (n*sz)=cl f (l.drop n)
 | [],n=>by simp
 | a::l,0=>by simp
 | a::l,n+1=>by rw[nM,List.drop_succ_cons,<-uK l n,cA,fm,F.len,bB (by rw[F.len];omega),bq];congr 1;omega
@[simp] theorem asV(l:List α):(cl f l).take (l.length*sz)=cl f l:=by rw[xW,dB]
@[simp] theorem uJ(l:List α):gF (cl f l)=true:=by rw[oC];exact acE F.cl l
@[simp] theorem asT{ρ:Nat->Option Nat}{H:U}(l:List α):(cl f l).map (gq ρ H 40)=cl f l:=TC (uJ l)
@[simp] theorem wP{k:Nat}(l:List α):closed (.sl k (l.map f))=true:=by simp only[closed];exact Dv F.cl l
theorem Vh(l:List α)(n j:Nat)(c:j<sz):(cl f l)[n*sz+j]? = (l[n]?).bind λa=>(f a)[j]? := by
 have h:(cl f l)[n*sz+j]? = ((cl f l).drop (n*sz))[j]? := by rw[aG]
 rw[h,uK]
 by_cases b:n<l.length
 .rw[bK b,nM,ah (by rw[F.len];exact c),List.getElem?_eq_getElem b];rfl
 .have d:l[n]? = none:=bk (fo b);rw[bB (fo b),d];simp
theorem acA(l:List α)(n:Nat)(a:α)(h:n<l.length):(cl f l).take (n*sz)++f a++(cl f l).drop (n*sz+sz)=cl f (l.take n++a::l.drop (n+1)):=by rw[xW,<-cA,uK,<-A3,nM,aL]
end
@[simp] theorem asF(l:List Int)(n:Nat):(cl f1 l).take n=cl f1 (l.take n):=by simpa using xW (f:=f1) l n
@[simp] theorem asD(l:List Int)(n:Nat):(cl f1 l).drop n=cl f1 (l.drop n):=by simpa using uK (f:=f1) l n
@[simp] theorem asE(l:List Int)(n:Int):cl f1 l ++ [.i n]=cl f1 (l ++ [n]):=by rw[<-q',DB]
@[simp] theorem asI(l:List (List Int))(x:List Int):cl fI l ++ [dI x]=cl fI (l ++ [x]):=by rw[<-q',ae0]
@[simp] theorem asM(l:List (List fZ))(x:List fZ):cl fP l ++ [gY x]=cl fP (l ++ [x]):=by rw[<-q',ae1]
@[simp] theorem asO(l:List fZ)(a b:Int):cl fS l ++ [.i a,.i b]=cl fS (l ++ [(a,b)]):=by rw[<-q',Bi]
@[simp] theorem asN(l:List Pos)(a b c:List Int)(r q:Int):cl Pos.cells l ++ [dI a,dI b,dI c,.i r,.i q]=cl Pos.cells (l ++ [⟨a,b,c,r,q⟩]):=by rw[<-q'];rfl
@[simp] theorem axI(p:Pos):Pos.mk p.cs p.h0 p.h1 p.gL p.side=p:=rfl
@[simp] theorem awB{l:List Int}{n:Int}{P:D->Prop}:oA (cl f1 l)[n.toNat]? P .mk=(n.toNat<l.length/\P (.i (gt l n))):=by
 have h:=Vh (f:=f1) l n.toNat 0 (by omega);simp only[eV,cy]at h;rw[h]
 by_cases a:n.toNat<l.length
 .rw[List.getElem?_eq_getElem a];have e:gt l n=l[n.toNat]:=by unfold gt;rw[List.getD_eq_getElem?_getD,List.getElem?_eq_getElem a];rfl
  simp[a,e]
 .rw[bk (by omega)];simp[a]
@[simp] theorem ahQ{α:Type}[Inhabited α]{f:α->List D}{sz:Nat}[F:Fl f sz]{l:List α}{t:TypeId}{n:Int}{P:D->Prop}(b:0<sz):oA (uZ sz (n.toNat*sz) (some (t,cl f l))) P .mk=(n.toNat<l.length/\P (.agg (f (gt l n)))):=by
 simp only[uZ,qJ,<-cA];rw[Cl,Aw];have h:n.toNat.succ*sz<=l.length*sz↔n.toNat<l.length:=fq b;rw[h];refine propext ⟨λ⟨a,p⟩=>⟨a,?_⟩,λ⟨a,p⟩=>⟨a,?_⟩⟩
 .have e:gt l n=l[n.toNat]:=by unfold gt;rw[List.getD_eq_getElem?_getD,List.getElem?_eq_getElem a];rfl
  rw[uK,bK a,nM,aV (by rw[F.len];exact Nat.le_refl _),af (by rw[F.len];exact Nat.le_refl _),<-e]at p;exact p
 .have e:gt l n=l[n.toNat]:=by unfold gt;rw[List.getD_eq_getElem?_getD,List.getElem?_eq_getElem a];rfl
  rw[uK,bK a,nM,aV (by rw[F.len];exact Nat.le_refl _),af (by rw[F.len];exact Nat.le_refl _),<-e];exact p
def mS(ρ:Nat->Option Nat)(H:U)(k sz off n:Nat):Option (TypeId×List D)->D
 | some (_,cs)=>if (off+n)*sz<=cs.length then .sl sz (chunks sz n ((cs.drop (off*sz)).map (gq ρ H k)))else .any
 | none=>.any
@[simp] theorem aaP(H:U)(k:Nat)(ρ:Nat->Option Nat)(v g sz off n:Nat):IP H k ρ v g sz off n none=mS ρ H k sz off n (rowAt H v g):=by unfold IP mS;rfl
@[simp] theorem vu{α:Type}{f:α->List D}{sz:Nat}[F:Fl f sz]{ρ:Nat->Option Nat}{H:U}{k n:Nat}{t:TypeId}{l:List α}(h:n=l.length):mS ρ H (k+1) sz 0 n (some (t,cl f l)) = .sl sz (l.map f):=by subst h;unfold mS;dsimp only;rw[qJ,if_pos (by simp),cQ,eU,TC (uJ l),oC,PT F.len]
@[simp] theorem at4{ρ:Nat->Option Nat}{H:U}{k sz:Nat}{p:TypeId×List D}:mS ρ H k sz 0 0 (some p) = .sl sz []:=by unfold mS;simp[chunks]
@[simp] theorem ayT:D.sl 1 []=dI []:=by unfold dI;rfl
@[simp] theorem ayU:D.sl 2 []=gY []:=by unfold gY;rfl
@[simp] theorem at6{ρ:Nat->Option Nat}{H:U}{k:Nat}{t:TypeId}{a b c:List Int}{r q:Int}:mS ρ H (k+1) 5 0 1 (some (t,[dI a,dI b,dI c,.i r,.i q]))=gZ [⟨a,b,c,r,q⟩]:=by have h:=vu (f:=Pos.cells) (ρ:=ρ) (H:=H) (k:=k) (t:=t) (l:=[⟨a,b,c,r,q⟩]) (n:=1) rfl;rw[oC]at h;unfold gZ;exact h
@[simp] theorem ayY(l:List Int):D.sl 1 (l.map f1)=dI l:=by unfold dI;rfl
@[simp] theorem ay1(l:List Pos):D.sl 5 (l.map Pos.cells)=gZ l:=by unfold gZ;rfl
@[simp] theorem ay0(l:List fZ):D.sl 2 (l.map fS)=gY l:=by unfold gY;rfl
def u6(ρ:Nat->Option Nat)(H:U):Option Ob->Ob
 | some o=>pG ρ H o
 | none=>.dead
@[simp] theorem ayx(ρ:Nat->Option Nat)(H:U)(t g:Nat)(cs:List D):u6 ρ H (some (.row t g cs)) = .row t g (cs.map (gq ρ H 40)):=rfl
@[simp] theorem ayu(ρ:Nat->Option Nat)(H:U)(kk:KK)(es:List (Value×D)):u6 ρ H (some (.map kk es)) = .map kk (es.map λx=>(x.1,gq ρ H 40 x.2)):=rfl
@[simp] theorem ays(ρ:Nat->Option Nat)(H:U):u6 ρ H (some .dead) = .dead:=rfl
@[simp] theorem ayt(ρ:Nat->Option Nat)(H:U):u6 ρ H (some .ja) = .ja:=rfl
@[simp] theorem ayw(ρ:Nat->Option Nat)(H:U)(rf:Nat)(e:Env)(st:qx):u6 ρ H (some (.ib rf e st)) = .ib rf (e.map λx=>(x.1,gq ρ H 40 x.2)) st:=rfl
@[simp] theorem awo:Cj []=false:=(rfl)
@[simp] theorem awn(k:Nat)(l:List Nat):Cj (k::l)=decide (k=9999):=by
 show Nat.beq k 9999=_
 cases a:Nat.beq k 9999 with
 | true=>exact(decide_eq_true (cj a)).symm
 | false=>exact(decide_eq_false (Nat.ne_of_beq_eq_false a)).symm
@[simp] theorem P2{n:Nat}{l:List Nat}{s:St}:cut n (9999::l) s = { s with env:=forget (9999::l) s.env }:=by unfold cut;dsimp only;rw[if_pos (.inr rfl)]
def P3(env:Env)(H:U)(m:List Nat)(r:Bool)(ks:nL):St:={ env:=env.map λp=>(p.1,gq (iI ks) H 40 p.2),H:=ks.map λp=>if p.2 then u6 (iI ks) H H[p.1]? else .dead,marks:=m.map λv=>(iI ks v).getD v,iD:=r }
def Tl(n:Nat)(env:Env)(H:U)(m:List Nat):List Nat:=dedup (((env.map λp=>jv n p.2).flatten++((H.take n).map (oZ n)).flatten++m.filter (n<=·)).filter (· < H.length))
@[simp low] theorem uL{n:Nat}{live:List Nat}{env:Env}{H:U}{m:List Nat}{r:Bool}(h:¬H.length<=n)(a:Cj live=false):cut n live { env:=env,H:=H,marks:=m,iD:=r }=P3 (forget live env) H m r (ji n (Tl n (forget live env) H m)):=by unfold cut P3 Tl;dsimp only;rw[if_neg (by rw[a];simpa using h)];rfl
@[simp] theorem auO(K:List Nat):ji 0 K=K.map λv=>(v,true):=rfl
@[simp] theorem auP(K:List Nat):ji 1 K=(0,true)::K.map λv=>(v,true):=rfl
@[simp] theorem au0(K:List Nat):ji 2 K=(0,true)::(1,true)::K.map λv=>(v,true):=rfl
@[simp] theorem au5(K:List Nat):ji 3 K=(0,true)::(1,true)::(2,true)::K.map λv=>(v,true):=rfl
@[simp] theorem au6(K:List Nat):ji 4 K=(0,true)::(1,true)::(2,true)::(3,true)::K.map λv=>(v,true):=rfl
def AE(i:Nat):nL->Nat->Option Nat
 | [],_=>none
 | p::r,v=>if p.2&&p.1 == v then some i else AE (i+1) r v
theorem ank(ks:nL)(v:Nat):iI ks v=AE 0 ks v:=by
 have key:∀(ks:nL) (i:Nat),AE i ks v=(ks.findIdx? (λp=>p.2&&p.1 == v)).map (· + i):=by
  intro ks
  induction ks with
  | nil=>intro i;rfl
  | cons p r a=>
   intro i;rw[List.findIdx?_cons];unfold AE;split
   .simp
   .rw[a,Option.map_map];congr 1;funext x;simp;omega
 rw[key];simp[iI]
@[simp] theorem ayf(v:Nat):iI [] v=none:=rfl
@[simp] theorem aye(p:Nat×Bool)(r:nL)(v:Nat):iI (p::r) v=if (p.2&&p.1 == v)=true then some 0 else AE 1 r v:=by rw[ank];rfl
@[simp] theorem ayd(i v:Nat):AE i [] v=none:=rfl
@[simp] theorem ayc(i:Nat)(p:Nat×Bool)(r:nL)(v:Nat):AE i (p::r) v=if (p.2&&p.1 == v)=true then some i else AE (i+1) r v:=rfl
@[simp] theorem atr(env:Env)(H:U)(m:List Nat)(r:Bool)(ks:nL):P3 env H m r ks = { env:=env.map λp=>(p.1,gq (iI ks) H 40 p.2),H:=ks.map λp=>if p.2 then u6 (iI ks) H H[p.1]? else .dead,marks:=m.map λv=>(iI ks v).getD v,iD:=r }:=rfl
@[simp] theorem axU(n:Nat)(env:Env)(H:U)(m:List Nat):Tl n env H m=dedup (((env.map λp=>jv n p.2).flatten++((H.take n).map (oZ n)).flatten++m.filter (n<=·)).filter (· < H.length)):=rfl
@[simp] theorem att:dedup [] = []:=rfl
@[simp] theorem ats(x:Nat)(r:List Nat):dedup (x::r)=if x∈r then dedup r else x::dedup r:=rfl
theorem Pn(n:Nat){d:D}(h:closed d=true):jv n d = []:=by cases d<;>first|rfl|cases h
@[simp] theorem azx(n:Nat)(l:List Int):jv n (dI l) = []:=rfl
@[simp] theorem azC(n:Nat)(l:List Pos):jv n (gZ l) = []:=rfl
@[simp] theorem azA(n:Nat)(p:Pos):jv n (dP p) = []:=rfl
@[simp] theorem azB(n:Nat)(l:List fZ):jv n (gY l) = []:=rfl
@[simp] theorem azw(n:Nat)(g:gi):jv n (dG g) = []:=rfl
@[simp] theorem azu(n:Nat)(g:gi):jv n g.jJ = []:=rfl
@[simp] theorem azy{α:Type}(n sz:Nat)(f:α->List D)(l:List α):jv n (dN sz f l) = []:=by cases l<;>rfl
@[simp] theorem azO(n:Nat)(v:Value):jv n (.val v) = []:=rfl
@[simp] theorem azt(n:Nat):jv n .any = []:=rfl
@[simp] theorem azF(n:Nat):jv n .gg = []:=rfl
@[simp] theorem azs(n:Nat)(cs:List D):jv n (.agg cs) = []:=rfl
@[simp] theorem azN(n:Nat)(cs:List D):jv n (.tup cs) = []:=rfl
@[simp] theorem azH(n:Nat)(cs:List D):jv n (.gu cs) = []:=rfl
@[simp] theorem azM(n sz:Nat)(es:List (List D)):jv n (.sl sz es) = []:=rfl
@[simp] theorem azG(n:Nat)(f:Fn)(a b:List D):jv n (.fn f a b) = []:=rfl
@[simp] theorem azK(n v g sz off len:Nat):jv n (.fY v g sz off len)=if n<=v then [v]else []:=rfl
@[simp] theorem azL(n v g off:Nat):jv n (.ptr v g off)=if n<=v then [v]else []:=rfl
@[simp] theorem azJ(n v:Nat):jv n (.gD v)=if n<=v then [v]else []:=rfl
@[simp] theorem azP(n v:Nat):jv n (.iT v)=if n<=v then [v]else []:=rfl
theorem anb(n:Nat){cs:List D}(h:gF cs=true):(cs.map (jv n)).flatten = []:=by
 induction cs with
 | nil=>rfl
 | cons d r a=>
  simp only[gF,Bool.and_eq_true]at h;simp[Pn n h.1,a h.2]
@[simp] theorem asS(n:Nat){α:Type}{f:α->List D}{sz:Nat}[F:Fl f sz](l:List α):((cl f l).map (jv n)).flatten = []:=anb n (uJ l)
@[simp] theorem aw2(n t g:Nat)(cs:List D):oZ n (.row t g cs)=(cs.map (jv n)).flatten:=rfl
@[simp] theorem awZ(n:Nat)(kk:KK)(es:List (Value×D)):oZ n (.map kk es)=(es.map λx=>jv n x.2).flatten:=rfl
@[simp] theorem awX(n:Nat):oZ n .dead = []:=rfl
theorem Sv{H:U}{d:D}(h:H≠[]):leave 0 0 H d=(gq (λ_=>none) H 40 d,[]):=by unfold leave;rw[if_neg (by rintro(e|e);exact h (ay.1 (by omega));cases e)];rfl
@[simp] theorem avA{o:Ob}{r:U}{d:D}:leave 0 0 (o::r) d=(gq (λ_=>none) (o::r) 40 d,[]):=Sv (by simp)
attribute [simp] and_assoc Kind.cells Clause.cells dP Pos.cells dG gi.cells gi.jJ
def kP(T:iB)(n:Nat)(live:List Nat)(a:IR)(s:St)(K:iY)(_:Tag (live,a,s,K)):Prop:=Ev T (.loop n live (lE a) s) (PO K)
def On(T:iB)(n:Nat)(live:List Nat)(a:IR)(K:iY):iY:=λo=>match o with
 | .norm s=>kP T n live a (cut n live s) K .mk
 | o=>K o
def aaB(T:iB)(v rf:Nat)(b:IR)(dst:Option Nat)(s:St)(K:St->Prop):iY:=λo=>match o with
 | .norm s1=>∃a,s1.H[v]? = some (.ib rf a .ready)/\XC T b { s1 with H:=s1.H.set v (.ib rf a .busy) } (Cr v rf dst s K)
 | _=>False
theorem na.r{T:iB}{v rf:Nat}{args:List D}{dst:Option Nat}{s:St}{K:St->Prop}{env0:Env}{Rd:qy}(e:s.H[v]? = some (.ib rf env0 .ready))(i:T.round rf=some Rd)(hl:args.length=Rd.params.length)
  (c b:IR) (g:lE c=Rd.a) (f:lE b=Rd.b)
  (h:XC T c { env:=uw Rd.params args env0,H:=s.H,iD:=true } (aaB T v rf b dst s K)):na T v args dst s K .mk:=by
 refine⟨rf,env0,Rd,e,i,hl,?_⟩;rw[<-g];refine(XC.wc h).mono λo a=>?_
 cases o with
 | norm s1=>
  obtain⟨d,h1,j⟩:=a;exact⟨s1,d,rfl,h1,by rw[<-f];exact XC.wc j⟩
 | exit=>exact a.elim
 | ret=>exact a.elim
def anp(rf:Nat)(s:St)(K:iY):D->U->Prop:=λ_ H'=>∃env st,H'[s.H.length+1]? = some (.ib rf env st)/\oA (AA { s with H:=H'.set (s.H.length+1) .dead,marks:=s.H.length::s.marks } st) K .mk
theorem sT.r{T:iB}{rf:Nat}{live:List Nat}{x:X}{s:St}{K:iY}{f:FuncId}{first cap:List D}{fn:jw}(b:s.iD=false)(a:ev s.env.get x = .fn (.func f) first cap)(e:T.fn f=some fn)(c:fn.full=true)
  (h:Wf T f (first ++ [.iT (s.H.length+1)]++cap) (s.H ++ [.ja,.ib rf (forget live s.env) .ready]) (anp rf s K)):sT T rf live x s K .mk:=
 Ev.oB b a e c h λd H' ⟨d',H2,g,env,st,h1,o,j,i⟩=>by cases g;exact⟨env,st,o,h1,j,o,rfl,i⟩
section
variable{T:iB}{n:Nat}{live:List Nat}{a:IR}{s:St}{K:iY}{id:Nat}
theorem gj.un(h:kP T s.H.length live a { s with env:=forget live s.env } K .mk):gj T live a s K .mk:=Ev.loop h
theorem kP.u(h:XC T a s (On T n live a K)):kP T n live a s K .mk:=by
 refine Ev.Aq (XC.wc h) (λb ⟨o,e,k⟩=>?_) λo ⟨o',e,k⟩ hs=>?_
 .cases e;exact k
 .cases e
  cases o with
  | norm=>cases hs
  | exit=>exact⟨_,rfl,k⟩
  | ret=>exact⟨_,rfl,k⟩
@[simp ↓] theorem av4:On T n live a K (.norm s)=kP T n live a (cut n live s) K .mk:=(rfl)
@[simp ↓] theorem av3:On T n live a K (.exit id s)=K (.exit id s):=(rfl)
@[simp ↓] theorem av5:On T n live a K (.ret s)=K (.ret s):=(rfl)
end
theorem Xk{x b:Bool}{P Q:Prop}(k:cond b P Q)(h:x=b:=by first|(show _=true;first|assumption|exact decide_eq_true (by assumption))|(show _=false;first|assumption|exact decide_eq_false (by assumption))):X2 x P Q .mk:=by subst h;cases x<;>simpa using k
class PB (x:Bool) (I:outParam (Prop->Prop)) (q:outParam Prop):Prop where
 t:∀ {P:Prop},I P->x=true->P
 f:x=false->q
instance(priority:=low){x:Bool}:PB x (λP=>x=true->P) (x=false):=⟨λh e=>h e,id⟩
instance{p:Prop}[Decidable p]:PB (decide p) (λP=>p->P) (¬p):=⟨λh e=>h (of_decide_eq_true e),of_decide_eq_false⟩
instance{p q:Prop}[Decidable p][Decidable q]:PB (decide p&&decide q) (λP=>p->q->P) (¬(p/\q)):=⟨λh e=>by
 rw[<-dJ]at e
 exact h (of_decide_eq_true e).1 (of_decide_eq_true e).2,λe=>by rw[<-dJ]at e;exact of_decide_eq_false e⟩
instance{p q:Prop}[Decidable p][Decidable q]:PB (decide p||decide q) (λP=>p\/q->P) (¬(p\/q)):=⟨λh e=>by
 rw[<-fJ]at e
 exact h (of_decide_eq_true e),λe=>by rw[<-fJ]at e;exact of_decide_eq_false e⟩
theorem Xs{x:Bool}{I:Prop->Prop}{q P Q:Prop}[c:PB x I q](h:I P)(k:q->Q):X2 x P Q .mk:=⟨c.t h,λe=>k (c.f e)⟩
theorem Yc{T:iB}{f:FuncId}{args:List D}{dst:Option Nat}{s:St}{K:St->Prop}{fn:jw}{x:D}(h:Wf T f args [] λd H'=>d=x/\H' = [])(k:K { s with env:=put s.env dst x })
  (c:T.fn f=some fn:=by exact rfl) (b:fn.full=false:=by exact rfl) (e:gF args=true:=by simp) (a:closed x=true:=by simp):gx T f args dst s K .mk:=gx.c c b h e a k
theorem Yt{T:iB}{f:FuncId}{args:List D}{R:List Fp}{dst:Option Nat}{s:St}{Q:Rc->St->Prop}{fn:jw}{x:D}(h:Wf T f args [] λd H'=>d=x/\H' = [])(k:Q ⟨R,[]⟩ { s with env:=put s.env dst x })
  (c:T.fn f=some fn:=by exact rfl) (b:fn.full=false:=by exact rfl) (e:gF args=true:=by simp) (a:closed x=true:=by simp):je T f args R dst s Q .mk:=je.c c b h e a k
theorem Yr{T:iB}{f:FuncId}{args oN:List D}{dst:Option Nat}{s:St}{K:St->Prop}{fn:jw}{x:D}(h:Wf T f oN [] λd H'=>d=x/\H' = [])(k:K { s with env:=put s.env dst x })
  (e:T.fn f=some fn:=by exact rfl) (c:fn.full=false:=by exact rfl) (hs:args.map (gq (λ_=>none) s.H 40)=oN:=by simp) (b:flat x=true:=by simp[flat]) (a:closed x=true:=by simp):gx T f args dst s K .mk:=gx.r e c h hs b a k
theorem Yg{T:iB}{f:FuncId}{args:List D}{H:U}(fn:jw){K:D->U->Prop}(h:XC T fn.body { env:=uf args,H:=H } (zF fn.results fn.own H.length K))
  (b:T.fn f=some fn:=by exact rfl) (hl:args.length<=fn.ntmps:=by exact cZ rfl) (a:ui fn.body=true:=by exact rfl):Wf T f args H K:=Wf.x b hl h a
theorem Yz{T:iB}{f:FuncId}{args:List D}{H:U}(fn:jw)(c:IR){K:D->U->Prop}(h:XC T c { env:=uf args,H:=H } (zF fn.results fn.own H.length K))
  (a:T.fn f=some fn:=by exact rfl) (hl:args.length<=fn.ntmps:=by exact cZ rfl) (b:lE c=fn.body:=by simp only[AO,AP];exact nj rfl):Wf T f args H K:=Wf.xz fn.own c a hl b h
structure Bx(p:Prop):Prop where
 x:p
theorem mK{P:Prop}(h:P:=by(with_reducible repeat' first|refine Xk ?_<;>try simp|refine Xs ?_ ?_<;>intro h<;>(try intro a)<;>(try simp[h])<;>try omega|refine Xg ?_|omega)):P:=h
theorem gd{P Q:Prop}(k:Q)(h:Bx Q->P:=by intro k;(with_reducible repeat' first|refine Xk ?_<;>try simp|refine Xs ?_ ?_<;>intro h<;>(try intro a)<;>(try simp[h])<;>try omega|refine Xg ?_|omega);exact k.x):P:=h ⟨k⟩
theorem j'{P Q R:Prop}(k:Q)(l:R)(h:Bx Q->Bx R->P:=by intro k l;(with_reducible repeat' first|refine Xk ?_<;>try simp|refine Xs ?_ ?_<;>intro h<;>(try intro a)<;>(try simp[h])<;>try omega|refine Xg ?_|omega);(revert h;exact k.x);(revert h;exact l.x)):P:=h ⟨k⟩ ⟨l⟩
theorem jP{A P Q:Prop}(a:A)(k:Q)(h:A->Bx Q->P:=by intro a k;(with_reducible repeat' first|refine Xk ?_<;>try simp[a]|refine Xs ?_ ?_<;>intro h<;>(try intro b)<;>(try simp[h,a])<;>try omega|refine Xg ?_|omega);exact k.x):P:=h a ⟨k⟩
theorem Mo{A P Q R:Prop}(a:A)(k:Q)(l:R)(h:A->Bx Q->Bx R->P:=by intro a k l;(with_reducible repeat' first|refine Xk ?_<;>try simp[a]|refine Xs ?_ ?_<;>intro h<;>(try intro b)<;>(try simp[h,a])<;>try omega|refine Xg ?_|omega);(revert h;exact k.x);(revert h;exact l.x)):P:=h a ⟨k⟩ ⟨l⟩
theorem lh{A B P Q:Prop}(b:A)(a:B)(k:Q)(h:A->B->Bx Q->P:=by intro b a k;(with_reducible repeat' first|refine Xk ?_<;>try simp[b,a]|refine Xs ?_ ?_<;>intro h<;>(try intro c)<;>(try simp[h,b,a])<;>try omega|refine Xg ?_|omega);exact k.x):P:=h b a ⟨k⟩
theorem abD{A B C P:Prop}(c:A)(b:B)(a:C)(h:A->B->C->P:=by intro c b a;(with_reducible repeat' first|refine Xk ?_<;>try simp[c,b,a]|refine Xs ?_ ?_<;>intro h<;>(try intro d)<;>(try simp[h,c,b,a])<;>try omega|refine Xg ?_|omega)):P:=h c b a
theorem qz{A B C P Q:Prop}(c:A)(b:B)(a:C)(k:Q)(h:A->B->C->Bx Q->P:=by intro c b a k;(with_reducible repeat' first|refine Xk ?_<;>try simp[c,b,a]|refine Xs ?_ ?_<;>intro h<;>(try intro d)<;>(try simp[h,c,b,a])<;>try omega|refine Xg ?_|omega);exact k.x):P:=h c b a ⟨k⟩
theorem abE{A B C P Q R:Prop}(c:A)(b:B)(a:C)(k:Q)(l:R)(h:A->B->C->Bx Q->Bx R->P:=by intro c b a k l;(with_reducible repeat' first|refine Xk ?_<;>try simp[c,b,a]|refine Xs ?_ ?_<;>intro h<;>(try intro d)<;>(try simp[h,c,b,a])<;>try omega|refine Xg ?_|omega);(revert h;exact k.x);(revert h;exact l.x)):P:=h c b a ⟨k⟩ ⟨l⟩
theorem FK{A B C D P Q:Prop}(d:A)(c:B)(b:C)(a:D)(k:Q)(h:A->B->C->D->Bx Q->P:=by intro d c b a k;(with_reducible repeat' first|refine Xk ?_<;>try simp[d,c,b,a]|refine Xs ?_ ?_<;>intro h<;>(try intro e)<;>(try simp[h,d,c,b,a])<;>try omega|refine Xg ?_|omega);exact k.x):P:=h d c b a ⟨k⟩
