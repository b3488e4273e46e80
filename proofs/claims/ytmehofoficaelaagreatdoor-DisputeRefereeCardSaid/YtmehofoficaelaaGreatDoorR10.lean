/- Part 10 of DisputeReferee. -/
import Derived.Test.YtmehofoficaelaaGreatDoorR09
set_option linter.all false
namespace Go.AL
open Go
universe u
inductive Tag{α:Sort u}(a:α):Type
 | mk
def oA{α:Type}(x:Option α)(P:α->Prop)(_:Tag P):Prop:=∃a,x=some a/\P a
@[simp] theorem y9{α:Type}(a:α)(P:α->Prop):oA (some a) P .mk=P a:=by simp[oA]
@[simp] theorem W7{α:Type}(P:α->Prop):oA none P .mk=False:=by simp[oA]
@[simp high] theorem A9{α:Type}{c:Prop}[Decidable c](x:Option α)(P:α->Prop):oA (if c then x else none) P .mk=(c/\oA x P .mk):=by by_cases h:c<;>simp[h]
@[simp] theorem atA{α:Type}{c:Prop}[Decidable c](x y:Option α)(P:α->Prop):oA (if c then x else y) P .mk=((c->oA x P .mk)/\(¬c->oA y P .mk)):=by by_cases h:c<;>simp[h]
@[simp] theorem atB(x:Option D)(P:D×Dl->Prop):oA (lift x) P .mk=oA x (λd=>P (d,.no)) .mk:=by cases x<;>simp[lift]
@[simp] theorem ato{α b:Type}(x:Option α)(f:α->Option b)(P:b->Prop):oA (x.bind f) P .mk=oA x (λa=>oA (f a) P .mk) .mk:=by cases x<;>simp
def gB:D->Bool->Option Bool
 | .val (.bool b),want=>some (b == want)
 | .val (.tuple _),_=>some false
 | _,_=>none
@[simp] theorem aqX(a:Bool):gB (.val undef) a=some false:=rfl
@[simp] theorem aqW(x:Bool):gB (.b x) true=some x:=by cases x<;>rfl
@[simp] theorem aqV(x:Bool):gB (.b x) false=some (!x):=by cases x<;>rfl
@[simp] theorem aq9(f:gD):guardOf f none=some true:=rfl
@[simp] theorem ara(f:gD)(j:Nat)(w:Bool):guardOf f (some (j,w))=gB (f j) w:=by show(match f j with | .val (.bool b)=>some (b == w) | .val (.tuple _)=>some false|_=>none)=gB (f j) w;unfold gB;split<;>simp_all
@[simp] theorem aqq(f:gD)(k:Nat):ev f (.t k)=f k:=rfl
@[simp] theorem aqp(f:gD)(d:D):ev f (.c d)=d:=rfl
@[simp] theorem auG(env:Env)(k:Nat)(d:D):put env (some k) d=(k,d)::env:=rfl
@[simp] theorem auF(env:Env)(d:D):put env none d=env:=rfl
@[simp] theorem aoc(H:U)(al:Al):Dl.no.app H al=H:=rfl
@[simp] theorem aob(H:U)(al:Al)(ob:Ob):(Dl.new ob).app H al=al.2 ob:=rfl
@[simp] theorem aod(H:U)(al:Al)(v:Nat)(ob:Ob):(Dl.obj v ob).app H al=H.set v ob:=rfl
def setCells(H:U)(v o:Nat)(xs:List D):Option Ob->U
 | some (.row t g cs)=>H.set v (.row t g (cs.take o++xs++cs.drop (o+xs.length)))
 | _=>H
@[simp] theorem an8(H:U)(al:Al)(v o:Nat)(xs:List D):(Dl.cells v o xs).app H al=setCells H v o xs H[v]? := by show(match H[v]? with|some (.row t g cs)=>H.set v (.row t g (cs.take o++xs++cs.drop (o+xs.length)))|_=>H)=_;unfold setCells;split<;>simp_all
@[simp] theorem avc(H:U)(v o:Nat)(xs:List D)(t g:Nat)(cs:List D):setCells H v o xs (some (.row t g cs))=H.set v (.row t g (cs.take o++xs++cs.drop (o+xs.length))):=rfl
def xF(k:IntKind)(a b:Int):Int:=k.wrap (a*2 ^ (min b.toNat k.bits))
def l4(k:IntKind)(a b:Int):Int:=a.fdiv (2 ^ (min b.toNat k.bits))
section
variable{k:IntKind}{a b:Int}
@[simp] theorem aou:ky .add (.val (.int k a)) (.val (.int k b))=jx .add k a b:=by simp[ky,o9]
@[simp] theorem aoK:ky .sub (.val (.int k a)) (.val (.int k b))=jx .sub k a b:=by simp[ky,o9]
@[simp] theorem aoC:ky .mul (.val (.int k a)) (.val (.int k b))=jx .mul k a b:=by simp[ky,o9]
@[simp] theorem aoF:ky .quo (.val (.int k a)) (.val (.int k b))=jx .quo k a b:=by simp[ky,o9]
@[simp] theorem aoG:ky .rem (.val (.int k a)) (.val (.int k b))=jx .rem k a b:=by simp[ky,o9]
@[simp] theorem aov:ky .and (.val (.int k a)) (.val (.int k b))=some (.val (.int k (bits .and k a b))):=by simp[ky,o9,jx]
@[simp] theorem aoE:ky .or (.val (.int k a)) (.val (.int k b))=some (.val (.int k (bits .or k a b))):=by simp[ky,o9,jx]
@[simp] theorem aoL:ky .xor (.val (.int k a)) (.val (.int k b))=some (.val (.int k (bits .xor k a b))):=by simp[ky,o9,jx]
@[simp] theorem aow:ky .andNot (.val (.int k a)) (.val (.int k b))=some (.val (.int k (bits .andNot k a b))):=by simp[ky,o9,jx]
@[simp] theorem aox:ky .eql (.val (.int k a)) (.val (.int k b))=some (.b (decide (a=b))):=by simp[ky,o9,jx,BEq.beq]
@[simp] theorem aoD:ky .neq (.val (.int k a)) (.val (.int k b))=some (.b (!decide (a=b))):=by simp[ky,o9,jx,bne,BEq.beq]
@[simp] theorem aoB:ky .lss (.val (.int k a)) (.val (.int k b))=some (.b (decide (a<b))):=by simp[ky,o9,jx]
@[simp] theorem aoA:ky .leq (.val (.int k a)) (.val (.int k b))=some (.b (decide (a<=b))):=by simp[ky,o9,jx]
@[simp] theorem aoz:ky .gtr (.val (.int k a)) (.val (.int k b))=some (.b (decide (a>b))):=by simp[ky,o9,jx]
@[simp] theorem aoy:ky .geq (.val (.int k a)) (.val (.int k b))=some (.b (decide (a>=b))):=by simp[ky,o9,jx]
@[simp] theorem aoH{k2:IntKind}:ky .shl (.val (.int k a)) (.val (.int k2 b))=if 0<=b then some (.val (.int k (xF k a b)))else none:=rfl
@[simp] theorem aoI{k2:IntKind}:ky .shr (.val (.int k a)) (.val (.int k2 b))=if 0<=b then some (.val (.int k (l4 k a b)))else none:=rfl
@[simp] theorem aoJ(op:BinOp)(s t:ByteArray):ky op (.val (.string s)) (.val (.string t))=Dv op s t:=rfl
@[simp] theorem awI(x:Bool):Dx .not (.b x)=some (.b !x):=rfl
@[simp] theorem awH(n:Int):Dx .neg (.i n)=if nq (-n)then some (.i (-n))else none:=rfl
@[simp] theorem aqd(b:IntKind):Kx b (.val (.int k a))=some (.val (.int b (b.wrap a))):=rfl
end
@[simp] theorem aqv(off v g o:Nat):EK off (.ptr v g o)=some (.ptr v g (o+off)):=rfl
@[simp] theorem aqu(off:Nat)(cs:List D):EK off (.fV cs)=some (.fV (cs.drop off)):=rfl
@[simp] theorem aqw(off n:Nat)(cs:List D):zZ off n true (.agg cs)=if off+n<=cs.length then some (.agg ((cs.drop off).take n))else none:=rfl
@[simp] theorem aqx(off n:Nat)(cs:List D):zZ off n false (.agg cs)=cs[off]? := rfl
@[simp] theorem aqr(ds:List D)(i:Nat):KV (.tup ds) i=ds[i]? := rfl
@[simp] theorem as7(v g o:Nat):A5 (.ptr v g o)=some (.ptr v g o):=rfl
@[simp] theorem as6(cs:List D):A5 (.fV cs)=some (.fV cs):=rfl
@[simp] theorem as5(f:FuncId)(a b:List D):A5 (.fn (.func f) a b)=some (.fn (.func f) a b):=rfl
@[simp] theorem as8(v:Nat):A5 (.iH v)=some (.iH v):=rfl
def rowOf(k:Nat):Option Ob->Option (TypeId×List D)
 | some (.row t g cs)=>if g=k then some (t,cs)else none
 | _=>none
@[simp] theorem akz(H:U)(v k:Nat):rowAt H v k=rowOf k H[v]? := by unfold rowAt rowOf;split<;>simp_all
@[simp] theorem avb(k:Nat)(t:TypeId)(g:Nat)(cs:List D):rowOf k (some (.row t g cs))=if g=k then some (t,cs)else none:=rfl
@[simp] theorem ar9(v g o:Nat)(H:U):vW (.ptr v g o) H=(rowAt H v g).bind λp=>p.2[o]? := by show(match rowAt H v g with|some (_,cs)=>cs[o]? | none=>none)=_;cases rowAt H v g<;>rfl
@[simp] theorem ar8(cs:List D)(H:U):vW (.fV cs) H=cs[0]? := rfl
def tL(n o:Nat):Option (TypeId×List D)->Option D
 | some p=>if o+n<=p.2.length then some (.agg ((p.2.drop o).take n))else none
 | none=>none
@[simp] theorem asg(n o:Nat):tL n o none=none:=rfl
@[simp low] theorem ash(n o:Nat)(p:TypeId×List D):tL n o (some p)=if o+n<=p.2.length then some (.agg ((p.2.drop o).take n))else none:=rfl
@[simp] theorem asb(n v g o:Nat)(H:U):uW n (.ptr v g o) H=tL n o (rowAt H v g):=by show(match rowAt H v g with|some (_,cs)=>if o+n<=cs.length then some (D.agg ((cs.drop o).take n))else none|none=>none)=_;cases rowAt H v g<;>rfl
@[simp] theorem asa(n:Nat)(cs:List D)(H:U):uW n (.fV cs) H=if n<=cs.length then some (.agg (cs.take n))else none:=rfl
@[simp] theorem awb(v g o:Nat)(x:D)(H:U):Bs (.ptr v g o) x H=(rowAt H v g).bind λp=>if o<p.2.length/\one x=true then some (.any,.cells v o [x])else none:=by show(match rowAt H v g with|some (_,cs)=>if o<cs.length/\one x=true then some (D.any,Dl.cells v o [x])else none|none=>none)=_;cases rowAt H v g<;>rfl
@[simp] theorem awc(n v g o:Nat)(xs:List D)(H:U):Bt n (.ptr v g o) (.agg xs) H=(rowAt H v g).bind λp=>if xs.length=n/\o+n<=p.2.length then some (.any,.cells v o xs)else none:=by show(match rowAt H v g with|some (_,cs)=>if xs.length=n/\o+n<=cs.length then some (D.any,Dl.cells v o xs)else none|none=>none)=_;cases rowAt H v g<;>rfl
@[simp] theorem aoR(t:TypeId)(cs:List D)(n:Nat):sB t (.agg cs) n=some (.ptr n 0 0,.new (.row t 0 cs)):=rfl
@[simp] theorem ao9(cs:List D):cellsOf (.agg cs)=some cs:=rfl
@[simp] theorem apl(k:IntKind)(n:Int):cellsOf (.val (.int k n))=some [.val (.int k n)]:=rfl
@[simp] theorem apa(b:Bool):cellsOf (.b b)=some [.b b]:=rfl
@[simp] theorem apr(b:ByteArray):cellsOf (.val (.string b))=some [.val (.string b)]:=rfl
@[simp] theorem apq(sz:Nat)(es:List (List D)):cellsOf (.sl sz es)=some [.sl sz es]:=rfl
@[simp] theorem apc(l:List Int):cellsOf (dI l)=some [dI l]:=rfl
@[simp] theorem apf(l:List Pos):cellsOf (gJ l)=some [gJ l]:=rfl
@[simp] theorem ape(l:List fE):cellsOf (gY l)=some [gY l]:=rfl
@[simp] theorem apd{α:Type}(sz:Nat)(f:α->List D)(l:List α):cellsOf (dN sz f l)=some [dN sz f l]:=by cases l<;>rfl
@[simp] theorem api:cellsOf .fJ=some [.fJ]:=rfl
@[simp] theorem apn(v g sz off n:Nat):cellsOf (.fy v g sz off n)=some [.fy v g sz off n]:=rfl
@[simp] theorem apo(v g o:Nat):cellsOf (.ptr v g o)=some [.ptr v g o]:=rfl
@[simp] theorem apk(cs:List D):cellsOf (.fV cs)=some [.fV cs]:=rfl
@[simp] theorem apm(v:Nat):cellsOf (.gg v)=some [.gg v]:=rfl
@[simp] theorem apj(f:Fn)(a b:List D):cellsOf (.fn f a b)=some [.fn f a b]:=rfl
@[simp] theorem auj(k:IntKind)(n:Int):one (.val (.int k n))=true:=rfl
@[simp] theorem aua(b:Bool):one (.b b)=true:=rfl
@[simp] theorem auo(b:ByteArray):one (.val (.string b))=true:=rfl
@[simp] theorem aun(sz:Nat)(es:List (List D)):one (.sl sz es)=true:=rfl
@[simp] theorem auc(l:List Int):one (dI l)=true:=rfl
@[simp] theorem aue(l:List Pos):one (gJ l)=true:=rfl
@[simp] theorem aud(l:List fE):one (gY l)=true:=rfl
@[simp] theorem aug:one .fJ=true:=rfl
@[simp] theorem aul(v g sz off n:Nat):one (.fy v g sz off n)=true:=rfl
@[simp] theorem aum(v g o:Nat):one (.ptr v g o)=true:=rfl
@[simp] theorem aui(cs:List D):one (.fV cs)=true:=rfl
@[simp] theorem auk(v:Nat):one (.gg v)=true:=rfl
@[simp] theorem auh(f:Fn)(a b:List D):one (.fn f a b)=true:=rfl
@[simp] theorem ao1(f:gD)(z:List D)(ps:List (Nat×Nat×X)):BY f z ps=(partsOf f ps).bind λl=>(lay l z).bind λcs=>some (D.agg cs):=by
 unfold BY;cases partsOf f ps with
 | none=>rfl
 | some l=>simp only[Option.bind_some];cases lay l z<;>rfl
@[simp] theorem ao0(f:gD)(t sz:Nat)(z:List D)(m:Nat)(ps:List (Nat×X))(n:Nat):x9 f t sz z m ps n=(partsOf f (ps.map λp=>(p.1*sz,sz,p.2))).bind λl=>(lay l (List.replicate m z).flatten).bind λcs=>some (.fy n 0 sz 0 m,.new (.row t 0 cs)):=by
 unfold x9;cases partsOf f (ps.map λp=>(p.1*sz,sz,p.2))with
 | none=>rfl
 | some l=>simp only[Option.bind_some];cases lay l (List.replicate m z).flatten<;>rfl
@[simp] theorem auw(f:gD):partsOf f []=some []:=rfl
@[simp] theorem auv(f:gD)(o n:Nat)(x:X)(r:List (Nat×Nat×X)):partsOf f ((o,n,x)::r)=(cellsOf (ev f x)).bind λcs=>(partsOf f r).bind λl=>some ((o,n,cs)::l):=by show(match cellsOf (ev f x),partsOf f r with|some cs,some l=>some ((o,n,cs)::l)|_,_=>none)=_;cases cellsOf (ev f x)<;>cases partsOf f r<;>rfl
@[simp] theorem ad3(vs:List Value)(k:IntKind)(n:Int):ma 1 (.lD vs) (.val (.int k n))=if 0<=n/\n<vs.length then some (.fV [.val (vs.getD n.toNat undef)])else none:=by simp[ma]
@[simp] theorem asq(vs:List Value)(H:U):mM .slice (.lD vs) H=some (.i vs.length):=rfl
@[simp] theorem arq(sz v g off len:Nat)(k:IntKind)(n:Int):ma sz (.fy v g sz off len) (.val (.int k n))=if 0<=n/\n<len then some (.ptr v g ((off+n.toNat)*sz))else none:=by simp[ma]
@[simp] theorem aru(sz n v g o:Nat)(k:IntKind)(i:Int):FO sz n (.ptr v g o) (.val (.int k i))=if 0<=i/\i<n then some (.ptr v g (o+i.toNat*sz))else none:=rfl
@[simp] theorem art(sz n:Nat)(cs:List D)(k:IntKind)(i:Int):FO sz n (.fV cs) (.val (.int k i))=if 0<=i/\i<n then some (.fV (cs.drop (i.toNat*sz)))else none:=rfl
@[simp] theorem arv(sz n:Nat)(b:Bool)(cs:List D)(k:IntKind)(i:Int):LX sz n b (.agg cs) (.val (.int k i))=if 0<=i/\i<n then zZ (i.toNat*sz) sz b (.agg cs)else none:=rfl
@[simp] theorem aoQ(f:gD)(n:Int):gN f none n=some n:=rfl
def sZ:D->Option Int
 | .val (.int _ n)=>some n
 | _=>none
@[simp] theorem arx(k:IntKind)(n:Int):sZ (.val (.int k n))=some n:=rfl
@[simp] theorem SO(f:gD)(x:X)(n:Int):gN f (some x) n=sZ (ev f x):=by show(match ev f x with | .val (.int _ n)=>some n|_=>none)=_;unfold sZ;split<;>simp_all
@[simp] theorem Rr(f:gD)(sz:Nat)(es:List (List D))(lo hi:Option X):tg f sz (.sl sz es) lo hi=(gN f lo 0).bind λl=>(gN f hi es.length).bind λh=>if 0<=l/\l<=h/\h<=es.length then some (.sl sz ((es.drop l.toNat).take (h.toNat-l.toNat)))else none:=by simp only[tg];cases gN f lo 0<;>cases gN f hi es.length<;>simp
@[simp] theorem av1(f:gD)(sz v g off len:Nat)(lo hi:Option X):tg f sz (.fy v g sz off len) lo hi=(gN f lo 0).bind λl=>(gN f hi len).bind λh=>if 0<=l/\l<=h/\h<=len then some (.fy v g sz (off+l.toNat) (h.toNat-l.toNat))else none:=by simp only[tg];cases gN f lo 0<;>cases gN f hi len<;>simp
@[simp] theorem av0(f:gD)(sz:Nat)(lo hi:Option X):tg f sz .fJ lo hi=(gN f lo 0).bind λl=>(gN f hi 0).bind λh=>if l=0/\h=0 then some .fJ else none:=by simp only[tg];cases gN f lo 0<;>cases gN f hi 0<;>simp
@[simp] theorem ak2(f:gD)(sz:Nat)(es:List (List D))(lo:Option X)(hi mx:X):xG f sz (.sl sz es) lo hi mx=(gN f lo 0).bind λl=>(sZ (ev f hi)).bind λh=>(sZ (ev f mx)).bind λm=>if 0<=l/\l<=h/\h=m/\m<=es.length then some (clip sz ((es.drop l.toNat).take (h.toNat-l.toNat)))else none:=by simp only[xG,SO];cases gN f lo 0<;>cases sZ (ev f hi)<;>cases sZ (ev f mx)<;>simp
@[simp] theorem avV(f:gD)(sz:Nat)(lo:Option X)(hi mx:X):xG f sz .fJ lo hi mx=(gN f lo 0).bind λl=>(sZ (ev f hi)).bind λh=>(sZ (ev f mx)).bind λm=>if l=0/\h=0/\m=0 then some .fJ else none:=by simp only[xG,SO];cases gN f lo 0<;>cases sZ (ev f hi)<;>cases sZ (ev f mx)<;>simp
@[simp] theorem avW(f:gD)(sz n v g o:Nat)(lo hi:Option X)(H:U):zl f sz n (.ptr v g o) lo hi H=(gN f lo 0).bind λl=>(gN f hi n).bind λh=>(rowAt H v g).bind λp=>if o % sz=0/\o+n*sz<=p.2.length/\n<=16777216/\0<=l/\l<=h/\h<=n then some (.fy v g sz (o / sz+l.toNat) (h.toNat-l.toNat))else none:=by
 simp only[zl]
 cases gN f lo 0 with
 | none=>rfl
 | some l=>cases gN f hi n with
  | none=>rfl
  | some h=>dsimp only;cases rowAt H v g<;>rfl
theorem MT{α:Type}(f:α->List D)(l:List α)(a b:Nat):((l.map f).drop a).take b=((l.drop a).take b).map f:=by rw[dM,List.map_drop]
@[simp] theorem avY(f:gD)(l:List Pos)(lo hi:Option X):tg f 5 (gJ l) lo hi=(gN f lo 0).bind λa=>(gN f hi l.length).bind λh=>if 0<=a/\a<=h/\h<=l.length then some (gJ ((l.drop a.toNat).take (h.toNat-a.toNat)))else none:=by unfold gJ;rw[Rr,List.length_map];simp only[MT]
@[irreducible] def cl{α:Type}(f:α->List D)(l:List α):List D:=(l.map f).flatten
theorem mY{α:Type}(f:α->List D)(l:List α):cl f l=(l.map f).flatten:=by rw[cl]
@[simp] theorem ak6(sz:Nat)(H:U)(es:List (List D)):ko sz H (.sl sz es)=some (es.flatten,es.length):=by simp[ko]
@[simp] theorem Dr{α:Type}(sz:Nat)(f:α->List D)(H:U)(l:List α):ko sz H (.sl sz (l.map f))=some (cl f l,l.length):=by rw[ak6,List.length_map,mY]
@[simp] theorem av2(H:U)(l:List Int):ko 1 H (dI l)=some (cl f1 l,l.length):=by unfold dI;exact Dr ..
@[simp] theorem av6(H:U)(l:List Pos):ko 5 H (gJ l)=some (cl Pos.cells l,l.length):=by unfold gJ;exact Dr ..
@[simp] theorem av5(H:U)(l:List fE):ko 2 H (gY l)=some (cl fS l,l.length):=by unfold gY;exact Dr ..
@[simp] theorem av3{α:Type}(sz:Nat)(f:α->List D)(H:U)(l:List α):ko sz H (dN sz f l)=some (cl f l,l.length):=by
 cases l with
 | nil=>show some ([],0)=_;rw[mY];rfl
 | cons a l=>exact Dr sz f H (a::l)
@[simp] theorem av8(sz:Nat)(H:U):ko sz H .fJ=some ([],0):=rfl
@[simp] theorem awa(sz:Nat)(H:U)(v g off len:Nat):ko sz H (.fy v g sz off len)=(rowAt H v g).bind λp=>if (off+len)*sz<=p.2.length then some ((p.2.drop (off*sz)).take (len*sz),len)else none:=by simp only[ko];cases rowAt H v g<;>simp
@[simp] theorem aoe(t sz bytes v g len:Nat)(y:D)(H:U)(a:Nat):rN t sz bytes (.fy v g sz 0 len) y H a=(ko sz H y).bind λq=>(rowAt H v g).bind λr=>if r.1=t/\len*sz<=r.2.length/\(len+q.2)*bytes<=140737488355328/\len+q.2<=9223372036854775807 then some (.fy v (g+1) sz 0 (len+q.2),.obj v (.row t (g+1) (r.2.take (len*sz)++q.1)))else none:=by
 simp only[rN]
 cases ko sz H y with
 | none=>rfl
 | some q=>cases rowAt H v g<;>simp
@[simp] theorem Zn(t bytes:Nat)(vs:List Value)(y:D)(H:U)(a:Nat):rN t 1 bytes (.lD vs) y H a=(ko 1 H y).bind λq=>if q.2≠0/\(vs.length+q.2)*bytes<=140737488355328/\vs.length+q.2<=9223372036854775807 then some (.fy a 0 1 0 (vs.length+q.2),.new (.row t 0 (vs.map .val++q.1)))else none:=by simp only[rN];cases ko 1 H y<;>simp
@[simp] theorem an9(t sz bytes:Nat)(y:D)(H:U)(a:Nat):rN t sz bytes .fJ y H a=(ko sz H y).bind λq=>if q.2=0 then some (.fJ,.no)else if q.2*bytes<=140737488355328/\q.2<=9223372036854775807 then some (.fy a 0 sz 0 q.2,.new (.row t 0 q.1))else none:=by simp only[rN];cases ko sz H y<;>rfl
@[simp] theorem as1(t sz bytes:Nat)(z:List D)(k a:IntKind)(n m:Int)(v:Nat):C7 t sz bytes z (.val (.int k n)) (.val (.int a m)) v=if 0<=n/\n<=m/\pW m 9223372036854775807/\pW ((bytes:Int)*m) 281474976710656 then some (.fy v 0 sz 0 n.toNat,.new (.row t 0 (List.replicate m.toNat z).flatten))else none:=rfl
@[simp] theorem asj(n:Int)(k:Nat):pW n k=(n<=(k:Int)):=rfl
@[simp] theorem arz(f:gD):qt f []=some []:=rfl
def P3:D->Option Int
 | .val (.int .i64 n)=>some n
 | _=>none
@[simp] theorem arp(n:Int):P3 (.i n)=some n:=rfl
@[simp] theorem ary(f:gD)(x:X)(r:List X):qt f (x::r)=(P3 (ev f x)).bind λn=>(qt f r).bind λl=>some (n::l):=by
 show(match ev f x,qt f r with | .val (.int .i64 n),some l=>some (n::l)|_,_=>none)=_;unfold P3;split
 .rename_i h1 b;rw[h1,b];rfl
 .rename_i h;split
  .rename_i n a
   cases hl:qt f r with
   | none=>rfl
   | some l=>exact absurd hl (h _ _ a)
  .rfl
def Qz(d:Bool):List Int->Option D
 | [a,b]=>some (.i (if d then max a b else min a b))
 | [a,b,c]=>some (.i (if d then max (max a b) c else min (min a b) c))
 | _=>none
@[simp] theorem mm2(m:Bool)(a b:Int):Qz m [a,b]=some (.i (if m then max a b else min a b)):=rfl
@[simp] theorem as0(f:gD)(m:Bool)(xs:List X):C6 f m xs=(qt f xs).bind (Qz m):=by
 unfold C6
 cases qt f xs with
 | none=>rfl
 | some l=>simp only[Option.bind_some];unfold Qz;split<;>simp_all
@[simp] theorem ao3(f:gD)(g:FuncId)(args:List X):kb f (.call g args)=some (g,args.map (ev f)):=rfl
def Kh(args:List D):D->Option (FuncId×List D)
 | .fn (.func k) first cap=>some (k,first++args++cap)
 | _=>none
@[simp] theorem ao2(args:List D)(k:FuncId)(first cap:List D):Kh args (.fn (.func k) first cap)=some (k,first++args++cap):=rfl
@[simp] theorem ZR(f:gD)(g:X)(args:List X):kb f (.callv g args)=Kh (args.map (ev f)) (ev f g):=by show(match ev f g with | .fn (.func k) first cap=>some (k,first++args.map (ev f)++cap)|_=>none)=_;unfold Kh;split<;>simp_all
def Qh(z:D)(ok:Bool):Option D->D
 | some d=>if ok then .tup [d,.b true]else d
 | none=>if ok then .tup [z,.b false]else z
@[simp] theorem asK(z:D)(ok:Bool)(d:D):Qh z ok (some d)=if ok then .tup [d,.b true]else d:=rfl
@[simp] theorem asJ(z:D)(ok:Bool):Qh z ok none=if ok then .tup [z,.b false]else z:=rfl
@[simp] theorem asL(kk:KK)(z:D)(ok:Bool)(v:Nat)(k:D)(H:U):AZ kk z ok (.gg v) k H=(keyOf k).bind λkv=>(kY H v).bind λp=>if p.1=kk/\p.1.has kv=true then some (Qh z ok (pY p.2 kv))else none:=by
 unfold AZ
 cases keyOf k with
 | none=>rfl
 | some kv=>
  cases h:kY H v with
  | none=>simp[h]
  | some p=>
   simp only[h,Option.bind_some];split
   .cases pY p.2 kv<;>rfl
   .rfl
@[simp] theorem asX(kk:KK)(v:Nat)(k x:D)(H:U):y6 kk (.gg v) k x H=(keyOf k).bind λkv=>(kY H v).bind λp=>if p.1=kk/\p.1.has kv=true then some (.any,.obj v (.map p.1 (lZ p.2 kv x)))else none:=by
 unfold y6
 cases keyOf k with
 | none=>rfl
 | some kv=>cases h:kY H v<;>simp[h]
def mapOf:Option Ob->Option (KK×List (Value×D))
 | some (.map kk es)=>some (kk,es)
 | _=>none
@[simp] theorem asW(kk:KK)(es:List (Value×D)):mapOf (some (.map kk es))=some (kk,es):=rfl
@[simp] theorem Qn(H:U)(v:Nat):kY H v=mapOf H[v]? := by unfold kY mapOf;split<;>simp_all
@[simp] theorem ar0(k:IntKind)(n:Int):rz (.int k n) = .val (.int k n):=rfl
@[simp] theorem ar2(s:ByteArray):rz (.string s) = .val (.string s):=rfl
@[simp] theorem arZ(b:Bool):rz (.bool b) = .b b:=rfl
@[simp] theorem ar5(s:ByteArray):keyOf (.val (.string s))=some (.string s):=rfl
@[simp] theorem ar3(b:Bool):keyOf (.b b)=some (.bool b):=rfl
@[simp] theorem ar4(k:IntKind)(n:Int):keyOf (.val (.int k n))=some (.int k n):=rfl
@[simp] theorem asp(v:Nat)(H:U):mM .map (.gg v) H=(kY H v).bind λp=>some (.i p.2.length):=by simp only[mM];cases kY H v<;>rfl
@[simp] theorem aqn(ls:List mg)(neg:Bool)(x y:D):zT false ls neg x y=(mb ls [x] [y]).bind λr=>some (.b (if neg then !r else r)):=by simp only[zT];cases mb ls [x] [y]<;>rfl
@[simp] theorem aqm(ls:List mg)(neg:Bool)(x y:List D):zT true ls neg (.agg x) (.agg y)=(mb ls x y).bind λr=>some (.b (if neg then !r else r)):=by simp only[zT];cases mb ls x y<;>rfl
@[simp] theorem ao8:mb [] [] []=some true:=rfl
@[simp] theorem ao7(l:mg)(ls:List mg)(x y:D)(xs c:List D):mb (l::ls) (x::xs) (y::c)=(tv l x y).bind λa=>(mb ls xs c).bind λb=>some (a&&b):=by show(match tv l x y,mb ls xs c with|some a,some b=>some (a&&b)|_,_=>none)=_;cases tv l x y<;>cases mb ls xs c<;>rfl
@[simp] theorem ao5(a b:Int):tv .int (.i a) (.i b)=some (decide (a=b)):=by simp[tv,BEq.beq]
@[simp] theorem ao4(a b:Bool):tv .bool (.b a) (.b b)=some (a == b):=rfl
@[simp] theorem ao6(a b:ByteArray):tv .str (.val (.string a)) (.val (.string b))=some (a.data.toList == b.data.toList):=rfl
attribute [simp] gv kill tQ Dh gA jy ub uZ tt tq l5 Mi lay Al.last pY lZ mV KK.has gh
@[simp] theorem awS(v g sz off n:Nat):mN (.fy v g sz off n) = [(v,none)]:=rfl
@[simp] theorem awR(v:Nat):mN (.gg v) = [(v,none)]:=rfl
@[simp] theorem awU(sz:Nat)(es:List (List D)):mN (.sl sz es) = []:=rfl
@[simp] theorem awP:mN .fJ = []:=rfl
@[simp] theorem awV(v:Value):mN (.val v) = []:=rfl
@[simp] theorem awM(cs:List D):mN (.agg cs) = []:=rfl
@[simp] theorem awQ(cs:List D):mN (.fV cs) = []:=rfl
@[simp] theorem awT(v g o:Nat):mN (.ptr v g o) = []:=rfl
@[simp] theorem awO(l:List Int):mN (dI l) = []:=by unfold dI;rfl
def XB(d:D)(P Q:Prop)(_:Tag (PProd.mk P Q)):Prop:=∃x,d = .b x/\(x=true->P)/\(x=false->Q)
def X2(x:Bool)(P Q:Prop)(_:Tag (PProd.mk P Q)):Prop:=(x=true->P)/\(x=false->Q)
@[simp] theorem al1(P Q:Prop):X2 true P Q .mk=P:=by simp[X2]
@[simp] theorem alY(P Q:Prop):X2 false P Q .mk=Q:=by simp[X2]
@[simp] theorem alZ(x:Bool)(P Q:Prop):X2 (!x) P Q .mk=X2 x Q P .mk:=by cases x<;>simp[X2]
@[simp] theorem al0(x y:Bool)(P Q:Prop):X2 (!x || !y) P Q .mk=X2 (x&&y) Q P .mk:=by cases x<;>cases y<;>simp[X2]
theorem X2.d{p:Prop}[Decidable p]{P Q:Prop}(h:p->P)(k:¬p->Q):X2 (decide p) P Q .mk:=⟨λe=>h (of_decide_eq_true e),λe=>k (of_decide_eq_false e)⟩
theorem X2.a{p q:Prop}[Decidable p][Decidable q]{P Q:Prop}(h:p->q->P)(k:¬(p/\q)->Q):X2 (decide p&&decide q) P Q .mk:=by rw[<-du];exact X2.d (λe=>h e.1 e.2) k
theorem X2.o{p q:Prop}[Decidable p][Decidable q]{P Q:Prop}(h:p\/q->P)(k:¬(p\/q)->Q):X2 (decide p||decide q) P Q .mk:=by rw[<-fh];exact X2.d h k
theorem X2.z{p:Prop}[Decidable p]{P Q:Prop}(h:¬p)(k:Q):X2 (decide p) P Q .mk:=X2.d (λn=>absurd n h) (λ_=>k)
@[simp] theorem al3(x:Bool)(a b:D)(P Q:Prop):XB (bif x then a else b) P Q .mk=X2 x (XB a P Q .mk) (XB b P Q .mk) .mk:=by cases x<;>simp
theorem X2.b{x:Bool}{P Q:Prop}(h:x=true->P)(k:x=false->Q):X2 x P Q .mk:=⟨h,k⟩
theorem Xg{p q:Prop}(b:q)(a:p:=by first|omega|assumption):p/\q:=⟨a,b⟩
@[simp] theorem al2(x:Bool)(P Q:Prop):XB (.b x) P Q .mk=X2 x P Q .mk:=by cases x<;>simp[XB,X2]
@[simp high] theorem al5(P Q:Prop):XB (.b true) P Q .mk=P:=by simp[XB]
@[simp high] theorem al4(P Q:Prop):XB (.b false) P Q .mk=Q:=by simp[XB]
def XG(g:Option Bool)(P Q:Prop)(_:Tag (PProd.mk P Q)):Prop:=∃x,g=some x/\(x=true->P)/\(x=false->Q)
@[simp] theorem aml(x:Bool)(P Q:Prop):XG (some x) P Q .mk=X2 x P Q .mk:=by cases x<;>simp[XG,X2]
@[simp high] theorem amo(P Q:Prop):XG (some true) P Q .mk=P:=by simp[XG]
@[simp high] theorem amn(P Q:Prop):XG (some false) P Q .mk=Q:=by simp[XG]
@[simp] theorem amm(x w:Bool)(a b:D)(P Q:Prop):XG (gB (bif x then a else b) w) P Q .mk=X2 x (XG (gB a w) P Q .mk) (XG (gB b w) P Q .mk) .mk:=by cases x<;>simp
def kp(s:St)(dst:Option Nat)(K:St->Prop):D×Dl->Prop:=λp=>K { s with env:=put s.env dst p.1,H:=p.2.app s.H (Al.last s.H) }
def kt(s:St)(dst:Option Nat)(R:List Fp)(Q:Rc->St->Prop):D×Dl->Prop:=λp=>Q ⟨R,jy s.H.length p.2⟩ { s with env:=put s.env dst p.1,H:=p.2.app s.H (Al.last s.H) }
section
variable(T:ia)
def fY(f:FuncId)(args:List D)(dst:Option Nat)(s:St)(K:St->Prop)(_:Tag (dst,s,K)):Prop:=
 (∃fn,T.fn f=some fn/\fn.full=false/\Wf T f (args.map (fL (λ_=>none) s.H 40)) [] λd Hn=>oA (after s dst args d Hn) K .mk) \/
 (∃fn,T.fn f=some fn/\fn.full=true/\Wf T f args s.H λd H'=>K { s with env:=put s.env dst d,H:=H' })
def iF(f:FuncId)(args:List D)(R:List Fp)(dst:Option Nat)(s:St)(Q:Rc->St->Prop)(_:Tag (dst,s,Q)):Prop:=
 ∃fn d,T.fn f=some fn/\fn.full=false/\Wf T f (args.map (fL (λ_=>none) s.H 40)) [] (λd' Hn=>d'=d/\Hn = [])/\(if gh args then closed d else flat d)=true/\Q ⟨R,[]⟩ { s with env:=put s.env dst d }
def vt(f:FuncId)(args:List D)(R:List Fp)(dst:Option Nat)(s:St)(Q:Rc->St->Prop)(t:Tag (dst,s,Q)):Prop:=
 iF T f args R dst s Q t\/∃fn d ob,T.fn f=some fn/\fn.full=false/\Wf T f (args.map (fL (λ_=>none) s.H 40)) [] (λd' Hn=>d'=d/\Hn = [ob]) /\
  (if gh args then mq d&&nz ob else n5 d&&oX ob)=true/\Q ⟨R,[(s.H.length,none)]⟩ { s with env:=put s.env dst (j' s.H.length d),H:=s.H ++ [ob] }
def pK(f:FuncId)(args:List D)(R:List Fp)(dst:Option Nat)(s:St)(Q:Rc->St->Prop)(t:Tag (dst,s,Q)):Prop:=
 vt T f args R dst s Q t\/∃fn d v,T.fn f=some fn/\fn.full=false/\(∀u∈(args.map (gZ s.H 40)).flatten,u=v)/\v∈(args.map (gZ s.H 40)).flatten/\(rowsOf s.H v).isSome=true /\
  gh (args.map (fL (λ_=>none) s.H 40))=true/\Wf T f (args.map (fL (λ_=>none) s.H 40)) [] (λd' Hn=>d'=d/\Hn = [])/\closed d=true/\Q ⟨R,[(v,none)]⟩ { s with env:=put s.env dst d,H:=s.H.set v .dead }
def Bg(v rf:Nat)(dst:Option Nat)(s:St)(K:St->Prop):iE:=λo=>∃a,o.st.H[v]? = some (.gV rf a .busy)/\K { s with env:=put s.env dst (.b !o.stop),H:=o.st.H.set v (.gV rf a o.zi) }
def rK(v:Nat)(args:List D)(dst:Option Nat)(s:St)(K:St->Prop)(_:Tag (dst,s,K)):Prop:=
 ∃rf env0 Rd,s.H[v]? = some (.gV rf env0 .ready)/\T.round rf=some Rd/\args.length=Rd.params.length /\
  Wc T Rd.a { env:=tf Rd.params args env0,H:=s.H,ik:=true } λo=>∃s1 a,o = .norm s1/\s1.H[v]? = some (.gV rf a .ready)/\Wc T Rd.b { s1 with H:=s1.H.set v (.gV rf a .busy) } (Bg v rf dst s K)
def vq(d:D)(args:List D)(dst:Option Nat)(s:St)(K:St->Prop)(t:Tag (dst,s,K)):Prop:=
 match d with
 | .iH v=>rK T v args dst s K t
 | d=>oA (Kh args d) (λp=>fY T p.1 p.2 dst s K t) .mk
def tZ(x:D)(dst:Option Nat)(s:St)(K:St->Prop)(_:Tag (dst,s,K)):Prop:=
 ∃v m since seen kk es,x = .ptr v 0 0/\s.H[v]? = some (.jb (.gg m) since seen)/\s.H[m]? = some (.map kk es)/\es.length=since /\
  ((∀i,i<es.length->i∈seen)->K { s with env:=put s.env dst (.tup [.b false]) }) /\
  (∀i k d,es[i]? = some (k,d)->i ∉ seen->K { s with env:=put s.env dst (.tup [.b true,rz k,d]),H:=s.H.set v (.jb (.gg m) since (seen ++ [i])) })
def iA(op:iu)(dst:Option Nat)(s:St)(K:St->Prop):Prop:=
 match op with
 | .call f args=>fY T f (args.map (ev s.env.get)) dst s K .mk
 | .callN f args=>fY T f (args.map (ev s.env.get)) dst s K .mk
 | .callv f args=>vq T (ev s.env.get f) (args.map (ev s.env.get)) dst s K .mk
 | .nilS a b=>oA (l5 s.env.get s.H s.H.length (.nilS a b)) (kp s dst K) .mk
 | .capE a=>oA (l5 s.env.get s.H s.H.length (.capE a)) (kp s dst K) .mk
 | .appZ a b c d e f=>oA (l5 s.env.get s.H s.H.length (.appZ a b c d e f)) (kp s dst K) .mk
 | .clr a b c=>oA (l5 s.env.get s.H s.H.length (.clr a b c)) (kp s dst K) .mk
 | .rangeS a=>oA (l5 s.env.get s.H s.H.length (.rangeS a)) (kp s dst K) .mk
 | .nextS a=>oA (l5 s.env.get s.H s.H.length (.nextS a)) (kp s dst K) .mk
 | .rangeM a=>oA (l5 s.env.get s.H s.H.length (.rangeM a)) (kp s dst K) .mk
 | .entry a=>oA (l5 s.env.get s.H s.H.length (.entry a)) (kp s dst K) .mk
 | .mapEnt a b c d=>oA (l5 s.env.get s.H s.H.length (.mapEnt a b c d)) (kp s dst K) .mk
 | .entSt a b c=>oA (l5 s.env.get s.H s.H.length (.entSt a b c)) (kp s dst K) .mk
 | .nextM a=>tZ (ev s.env.get a) dst s K .mk
 | op=>oA (gv s.env.get s.H s.H.length op) (kp s dst K) .mk
def jv(op:iu)(dst:Option Nat)(s:St)(Q:Rc->St->Prop):Prop:=
 match op with
 | .call f args=>iF T f (args.map (ev s.env.get)) (gA s.env.get s.H (.call f args)) dst s Q .mk
 | .callN f args=>pK T f (args.map (ev s.env.get)) (gA s.env.get s.H (.callN f args)) dst s Q .mk
 | .callv f args=>oA (kb s.env.get (.callv f args)) (λp=>iF T p.1 p.2 (gA s.env.get s.H (.callv f args)) dst s Q .mk) .mk
 | op=>oA (gv s.env.get s.H s.H.length op) (kt s dst (gA s.env.get s.H op) Q) .mk
def XO:List gI->St->(St->Prop)->Prop
 | [],s,K=>K s
 | e::r,s,K=>XG (guardOf s.env.get e.guard) (iA T e.op e.dst s λa=>XO r a K) (XO r { s with env:=put s.env e.dst (.val undef) } K) .mk
def XT:List gI->St->(List Rc->St->Prop)->Prop
 | [],s,K=>K [] s
 | e::r,s,K=>XG (guardOf s.env.get e.guard) (jv T e.op e.dst s λrc b=>XT r b λrs a=>K (rc::rs) a) (XT r { s with env:=put s.env e.dst (.val undef) } λrs a=>K (⟨[],[]⟩::rs) a) .mk
end
section
variable{T:ia}
theorem QE{α:Type}{x:Option α}{P Q:α->Prop}{t:Tag P}{u:Tag Q}(h:oA x P t)(hi:∀a,P a->Q a):oA x Q u:=by obtain⟨a,h1,b⟩:=h;exact⟨a,h1,hi a b⟩
theorem fY.mono{f:FuncId}{args:List D}{dst:Option Nat}{s:St}{K c:St->Prop}{t:Tag (dst,s,K)}{u:Tag (dst,s,c)}(h:fY T f args dst s K t)(hi:∀s,K s->c s):fY T f args dst s c u:=by
 rcases h with⟨fn,b,a,h⟩|⟨fn,b,a,h⟩
 .exact .inl ⟨fn,b,a,Wf.mono h λd Hn h=>QE h hi⟩
 .exact .inr ⟨fn,b,a,Wf.mono h λd H h=>hi _ h⟩
theorem rK.mono{v:Nat}{args:List D}{dst:Option Nat}{s:St}{K a:St->Prop}{t:Tag (dst,s,K)}{u:Tag (dst,s,a)}(h:rK T v args dst s K t)(hi:∀s,K s->a s):rK T v args dst s a u:=by obtain⟨rf,env0,Rd,d,f,hl,h⟩:=h;exact⟨rf,env0,Rd,d,f,hl,h.mono λo ⟨s1,c,e,h1,j⟩=>⟨s1,c,e,h1,j.mono λo ⟨b,i,g⟩=>⟨b,i,hi _ g⟩⟩⟩
theorem vq.mono{d:D}{args:List D}{dst:Option Nat}{s:St}{K a:St->Prop}{t:Tag (dst,s,K)}{u:Tag (dst,s,a)}(h:vq T d args dst s K t)(hi:∀s,K s->a s):vq T d args dst s a u:=by
 unfold vq at h ⊢;split at h
 .exact rK.mono h hi
 .exact QE h λp b=>fY.mono b hi
theorem tZ.mono{x:D}{dst:Option Nat}{s:St}{K a:St->Prop}{t:Tag (dst,s,K)}{u:Tag (dst,s,a)}(h:tZ x dst s K t)(hi:∀s,K s->a s):tZ x dst s a u:=by obtain⟨v,m,since,seen,kk,es,h1,g,f,e,c,b⟩:=h;exact⟨v,m,since,seen,kk,es,h1,g,f,e,λh=>hi _ (c h),λi k d l j=>hi _ (b i k d l j)⟩
theorem iA.mono{op:iu}{dst:Option Nat}{s:St}{K a:St->Prop}(h:iA T op dst s K)(hi:∀s,K s->a s):iA T op dst s a:=by
 unfold iA at h ⊢
 split at h<;>first
  | exact fY.mono h hi
  | exact vq.mono h hi
  | exact tZ.mono h hi
  | exact QE h λp b=>hi _ b
theorem XO.mono:∀ {l:List gI} {s:St} {K a:St->Prop},XO T l s K->(∀s,K s->a s)->XO T l s a
 | [],s,K,a,h,hi=>hi s h
 | e::r,s,K,a,h,hi=>by obtain⟨x,hg,b,c⟩:=h;exact⟨x,hg,λe=>iA.mono (b e) λd h=>XO.mono h hi,λe=>XO.mono (c e) hi⟩
theorem fY.wo{f:FuncId}{args:List D}{s:St}{K:St->Prop}{e:gI}{r:List gI}(hg:guardOf s.env.get e.guard=some true)(k:kb s.env.get e.op=some (f,args))(h:fY T f args e.dst s (λg=>Wo T r g K) .mk):Wo T (e::r) s K:=by
 rcases h with⟨fn,j,i,h⟩|⟨fn,j,i,h⟩
 .refine Ev.Ej hg k j i h (λd Hn b=>?_) λd Hn g b l=>?_
  .obtain⟨d',H',a,g,hs,c⟩:=b;cases a;rw[hs];rfl
  .obtain⟨d',H',a,m,hs,c⟩:=b;cases a;rw[hs]at l;cases l;exact c
 .exact Ev.Ei hg k j i h λd H' b=>by obtain⟨d',H2,a,c⟩:=b;cases a;exact c
theorem XO.wv{l2:List gI}{K:St->Prop}:∀ {l:List gI} {s:St},XO T l s (λb=>Wo T l2 b K)->Wo T (l++l2) s K
 | [],s,h=>h
 | e::r,s,h=>by
  obtain⟨x,hg,F,t⟩:=h
  cases x with
  | false=>exact Wo.off hg (XO.wv (t rfl))
  | true=>
   have h:=F rfl;have plain:oA (gv s.env.get s.H s.H.length e.op) (kp s e.dst λb=>XO T r b λb=>Wo T l2 b K) .mk->Wo T (e::r++l2) s K:=λ⟨⟨d,δ⟩,z,y⟩=>Wo.op hg z (XO.wv y);have sp:oA (l5 s.env.get s.H s.H.length e.op) (kp s e.dst λb=>XO T r b λb=>Wo T l2 b K) .mk->Wo T (e::r++l2) s K:=λ⟨⟨d,δ⟩,z,y⟩=>Wo.Bq hg z (XO.wv y)
   have call:∀f args,kb s.env.get e.op=some (f,args)->fY T f args e.dst s (λb=>XO T r b λb=>Wo T l2 b K) .mk->Wo T (e::r++l2) s K:=λf args G D=>by
    refine fY.wo hg G ?_;rcases D with⟨fn,t,q,h⟩|⟨fn,t,q,h⟩
    .exact .inl ⟨fn,t,q,Wf.mono h λd Hn ⟨b,h1,g⟩=>⟨b,h1,XO.wv g⟩⟩
    .exact .inr ⟨fn,t,q,Wf.mono h λd Hn h1=>XO.wv h1⟩
   unfold iA at h;split at h
   case h_1 f args c=>exact call _ _ (by rw[c];rfl) h
   case h_2 f args c=>exact call _ _ (by rw[c];rfl) h
   case h_3 f args c=>
    unfold vq at h;split at h
    .rename_i v E;obtain⟨rf,env0,Rd,B,H,hl,h⟩:=h;have C:yieldOf s.env.get e.op=some (v,args.map (ev s.env.get)):=by rw[c];simp only[yieldOf,E]
     refine Ev.Kg hg C B H hl h (λo ⟨o',j,s1,A,u,h1,g⟩=>?_) (Rb:=PO (Bg v rf e.dst s λb=>XO T r b λb=>Wo T l2 b K)) (λs1 A ⟨o',j,N,w,u,h1,g⟩ n=>?_) (λo ⟨o',j,w,h1,g⟩=>?_) λo w ⟨o',j,M,h1,g⟩ n=>?_
     .cases j;subst u;exact⟨rfl,A,h1⟩
     .cases j;cases u;rw[h1]at n;cases n;exact g
     .cases j;exact⟨w,h1⟩
     .cases j;rw[h1]at n;cases n;exact XO.wv g
    .rename_i O;obtain⟨p,q,h⟩:=h;exact call p.1 p.2 (by rw[c,ZR];exact q) h
   case h_14 a c=>
    obtain⟨v,m,since,seen,kk,es,h1,g,n,L,J,I⟩:=h;exact Ev.next hg c h1 g n L (λk=>XO.wv (J k)) λi k d j u=>XO.wv (I i k d j u)
   case h_15=>exact plain h
   all_goals (rename_i c;exact sp (by rw[c];exact h))
theorem XO.wo{l:List gI}{s:St}{K:St->Prop}(h:XO T l s K):Wo T l s K:=by have:=XO.wv (l2:=[]) (K:=K) (XO.mono h λa k=>Wo.nil k);rwa [ax]at this
theorem XT.wt:∀ {l:List gI} {s:St} {K:List Rc->St->Prop},XT T l s K->Wt T l s K
 | [],s,K,h=>Wt.nil h
 | e::r,s,K,h=>by
  obtain⟨x,hg,w,g⟩:=h
  cases x with
  | false=>exact Wt.off hg (XT.wt (g rfl))
  | true=>
   have h:=w rfl
   have call:∀f args,kb s.env.get e.op=some (f,args)->iF T f args (gA s.env.get s.H e.op) e.dst s (λrc o=>XT T r o λrs n=>K (rc::rs) n) .mk->Wt T (e::r) s K:=λf args z ⟨fn,d,g,b,j,m,c⟩=>
    Ev.GZ hg z g b j (λd' Hn ⟨d2,H2,a,i⟩=>by cases a;exact i) m (XT.wt c) λrs o ⟨t,n,a,k⟩=>by cases a;exact⟨_,_,rfl,k⟩
   unfold jv at h;split at h
   case h_1 f args a=>exact call _ _ (by rw[a];rfl) (by rw[a];exact h)
   case h_2 f args a=>
    rcases h with(h|⟨fn,d,ob,g,b,j,m,c⟩)|⟨fn,d,v,g,b,hS,u,A,m,j,y,c⟩
    .exact call _ _ (by rw[a];rfl) (by rw[a];exact h)
    .exact Ev.G0 hg a rfl g b j (λd' Hn ⟨d2,H2,a,i⟩=>by cases a;exact i) m (XT.wt c) λrs o ⟨t,n,q,k⟩=>by cases q;rw[a];exact⟨_,_,rfl,k⟩
    .exact Ev.G1 hg a rfl g b hS u A m j (λd' Hn ⟨d2,H2,a,i⟩=>by cases a;exact i) y (XT.wt c) λrs o ⟨t,n,q,k⟩=>by cases q;rw[a];exact⟨_,_,rfl,k⟩
   case h_3 f args a=>obtain⟨p,b,h⟩:=h;exact call p.1 p.2 (by rw[a];exact b) (by rw[a];exact h)
   case h_4=>obtain⟨⟨d,δ⟩,i,c⟩:=h;exact Wt.op hg i (XT.wt c)
end
def kO:IR->IR
 | .seq a b=>.seq (kO a) (kO b)
 | .cond c a b=>.cond c (kO a) (kO b)
 | .block id live a=>.block id live (kO a)
 | .loop live a=>.loop live (kO a)
 | .fz _ a=>kO a
 | .uo _ a b=>.ops (a++b)
 | c=>c
def s9:IR->Bool
 | .seq a b=>s9 a&&s9 b
 | .cond _ a b=>s9 a&&s9 b
 | .block _ _ a=>s9 a
 | .loop _ a=>s9 a
 | .fz _ _=>false
 | .uo _ _ _=>false
 | _=>true
theorem oP:∀ {c:IR},s9 c=true->kO c=c
 | .seq a b,h=>by simp only[s9,Bool.and_eq_true]at h;rw[kO,oP h.1,oP h.2]
 | .cond _ a b,h=>by simp only[s9,Bool.and_eq_true]at h;rw[kO,oP h.1,oP h.2]
 | .block _ _ a,h=>by rw[kO,oP (c:=a) h]
 | .loop _ a,h=>by rw[kO,oP (c:=a) h]
 | .fz _ _,h=>by cases h
 | .uo _ _ _,h=>by cases h
 | .skip,_ | .ops _,_ | .lF _ _,_ | .mj _ _ _,_ | .nv _ _ _,_ | .exit _,_ | .ret,_ | .bad,_=>rfl
def lq(k:Nat):List gI->Bool
 | { dst:=some j,.. }::_=>decide (j=k)
 | _=>false
def iB(k:Nat)(S:List Nat):IR->IR
 | .ops l=>bif lq k l then .fz S (.ops l)else .ops l
 | .lF p l=>bif lq k l then .fz S (.lF p l)else .lF p l
 | .mj p l e=>bif lq k l then .fz S (.mj p l e)else .mj p l e
 | .seq a b=>.seq (iB k S a) (iB k S b)
 | .cond c a b=>.cond c (iB k S a) (iB k S b)
 | .block id live a=>.block id live (iB k S a)
 | .loop live a=>.loop live (iB k S a)
 | .fz d a=>.fz d (iB k S a)
 | c=>c
theorem zn(k:Nat)(S:List Nat):∀c:IR,kO (iB k S c)=kO c
 | .ops l=>by unfold iB;cases lq k l<;>rfl
 | .lF p l=>by unfold iB;cases lq k l<;>rfl
 | .mj p l e=>by unfold iB;cases lq k l<;>rfl
 | .seq a b=>by simp only[iB,kO,zn k S a,zn k S b]
 | .cond c a b=>by simp only[iB,kO,zn k S a,zn k S b]
 | .block id live a=>by simp only[iB,kO,zn k S a]
 | .loop live a=>by simp only[iB,kO,zn k S a]
 | .fz d a=>by simp only[iB,kO,zn k S a]
 | .skip | .nv _ _ _ | .exit _ | .ret | .bad | .uo _ _ _=>rfl
def mw(k:Nat):List gI->List gI
 | []=>[]
 | e::r=>bif lq k [e]then []else e::mw k r
def mz(k:Nat):List gI->List gI
 | []=>[]
 | e::r=>bif lq k [e]then e::r else mz k r
def mH(k:Nat):List gI->Bool
 | []=>false
 | e::r=>lq k [e]||mH k r
theorem SK(k:Nat):∀l:List gI,mw k l++mz k l=l
 | []=>rfl
 | e::r=>by unfold mw mz;cases lq k [e]<;>simp[SK k r]
def jN(k:Nat)(S:List Nat):IR->IR
 | .ops l=>bif mH k l then .uo S (mw k l) (mz k l)else .ops l
 | .seq a b=>.seq (jN k S a) (jN k S b)
 | .cond c a b=>.cond c (jN k S a) (jN k S b)
 | .block id live a=>.block id live (jN k S a)
 | .loop live a=>.loop live (jN k S a)
 | .fz d a=>.fz d (jN k S a)
 | c=>c
theorem zo(k:Nat)(S:List Nat):∀c:IR,kO (jN k S c)=kO c
 | .ops l=>by unfold jN;cases mH k l<;>simp[kO,SK]
 | .seq a b=>by simp only[jN,kO,zo k S a,zo k S b]
 | .cond c a b=>by simp only[jN,kO,zo k S a,zo k S b]
 | .block id live a=>by simp only[jN,kO,zo k S a]
 | .loop live a=>by simp only[jN,kO,zo k S a]
 | .fz d a=>by simp only[jN,kO,zo k S a]
 | .skip | .nv _ _ _ | .exit _ | .ret | .bad | .uo _ _ _ | .lF _ _ | .mj _ _ _=>rfl
def fO(T:ia)(live:List Nat)(a:IR)(s:St)(K:iE)(_:Tag (live,a,s,K)):Prop:=Wc T (.loop live (kO a)) s K
def x4(T:ia)(rf:Nat)(live:List Nat)(x:X)(s:St)(K:iE)(_:Tag (live,x,s,K)):Prop:=Wc T (.nv rf live x) s K
@[irreducible] def vY(m S:List Nat):Bool:=m.all λv => !S.contains v
theorem F3(m S:List Nat):vY m S=m.all λv => !S.contains v:=by unfold vY;rfl
@[simp] theorem aeT(S:List Nat):vY [] S=true:=by rw[F3];rfl
@[simp] theorem asV(v:Nat)(m S:List Nat):vY (v::m) S=(!decide (v∈S)&&vY m S):=by rw[F3,F3,List.all_cons,List.contains_eq_mem]
def Np:D->List Nat
 | .agg cs=>(cs.map (iT 0)).flatten
 | _=>[]
@[simp] theorem an4(cs:List D):Np (.agg cs)=(cs.map (iT 0)).flatten:=rfl
def pk(env:Env):List Nat->List Nat
 | []=>[]
 | v::r=>if v<1000 then v::pk env r else if v<2000 then iT 0 (env.get (v-1000))++pk env r else Np (env.get (v-2000))++pk env r
@[simp] theorem aqU(env:Env):pk env [] = []:=rfl
@[simp] theorem aqT(env:Env)(v:Nat)(r:List Nat):pk env (v::r)=if v<1000 then v::pk env r else if v<2000 then iT 0 (env.get (v-1000))++pk env r else Np (env.get (v-2000))++pk env r:=rfl
def XC(T:ia):IR->St->iE->Prop
 | .skip,s,K=>K (.norm s)
 | .ops l,s,K=>XO T l s λd=>K (.norm d)
 | .lF jk l,s,K=>XT T l s λrs d=>uZ jk rs=true/\K (.norm d)
 | .mj jk l es,s,K=>XT T l s λrs d=>uZ jk rs=true/\XO T es d λd=>K (.norm d)
 | .seq a b,s,K=>XC T a s λo=>match o with
  | .norm d=>XC T b d K
  | o=>K o
 | .cond c a b,s,K=>XB (ev s.env.get c) (XC T a s K) (XC T b s K) .mk
 | .block id live a,s,K=>XC T a s λo=>K (lh id s.H.length live o)
 | .loop live a,s,K=>fO T live a s K .mk
 | .nv rf live x,s,K=>x4 T rf live x s K .mk
 | .exit id,s,K=>K (.exit id s)
 | .ret,s,K=>K (.ret s)
 | .bad,_,_=>False
 | .fz S a,s,K=>vY s.marks (pk s.env S)=true/\XC T a (lH (pk s.env S) s) K
 | .uo S a b,s,K=>XO T a s λd=>vY d.marks (pk d.env S)=true/\XO T b (lH (pk d.env S) d) λd=>K (.norm d)
def Mn(T:ia)(b:IR)(K:iE):iE:=λo=>match o with
 | .norm a=>XC T b a K
 | o=>K o
def wG(id n:Nat)(live:List Nat)(K:iE):iE:=λo=>K (lh id n live o)
section
variable{T:ia}
theorem Wc.lH{c:IR}{s:St}{K:iE}(S:List Nat)(a:vY s.marks S=true)(h:Wc T c (lH S s) K):Wc T c s K:=Ev.EN S (by rwa [F3]at a) h
theorem XC.wc:∀ {c:IR} {s:St} {K:iE},XC T c s K->Wc T (kO c) s K
 | .skip,s,K,h=>Wc.skip h
 | .ops l,s,K,h=>Wc.ops (XO.wo h)
 | .lF jk l,s,K,h=>Wc.lF (XT.wt h)
 | .mj jk l es,s,K,h=>Wc.mj (Ev.mono (XT.wt h) λ_ ⟨rs,d,q,k⟩=>⟨rs,d,q,k.1,XO.wo k.2⟩)
 | .seq a b,s,K,h=>Wc.seq ((XC.wc (c:=a) h).mono λo f=>by
  cases o with
  | norm d=>exact XC.wc (c:=b) f
  | exit=>exact f
  | ret=>exact f)
 | .cond _ _ _,_,_,h=>by obtain⟨x,g,i,j⟩:=h;exact Wc.cond x g (λe=>XC.wc (i e)) λe=>XC.wc (j e)
 | .block _ _ _,_,_,h=>Wc.block (XC.wc h)
 | .loop live a,s,K,h=>h
 | .nv rf live x,s,K,h=>h
 | .exit id,s,K,h=>Wc.exit h
 | .ret,s,K,h=>Wc.ret h
 | .bad,s,K,h=>h.elim
 | .fz S a,s,K,h=>Wc.lH (pk s.env S) h.1 (XC.wc (c:=a) h.2)
 | .uo S a b,s,K,h=>Wc.ops (XO.wv (XO.mono h λd k=>Ev.lH (pk d.env S) (by have:=k.1;rwa [F3]at this) (XO.wo k.2)))
def tP(ds:List D):D:=match ds with
 | [d]=>d
 | ds=>.tup ds
@[simp] theorem au0(d:D):tP [d]=d:=rfl
@[simp] theorem au1(d e:D):tP [d,e] = .tup [d,e]:=rfl
@[simp] theorem au2(d e f:D):tP [d,e,f] = .tup [d,e,f]:=rfl
@[simp] theorem auZ:tP [] = .tup []:=rfl
def yu(rs:List tX)(own n:Nat)(K:D->U->Prop):iE:=λo=>match o with
 | .norm s | .ret s=>oA (kill s.marks s.H) (λH=>oA (tQ { s with H:=H } rs) (λds=>K (leave own n H (tP ds)).1 (leave own n H (tP ds)).2) .mk) .mk
 | .exit _ _=>False
theorem Wf.xz(own:Nat){f:FuncId}{args:List D}{H:U}{fn:iP}{K:D->U->Prop}(c:IR)(g:T.fn f=some fn)(hl:args.length<=fn.ntmps)(i:kO c=fn.body)
  (h:XC T c { env:=s7 args,H:=H } (yu fn.results own H.length K)):Wf T f args H K:=by
 have key:∀s:St,(oA (kill s.marks s.H) (λH'=>oA (tQ { s with H:=H' } fn.results) (λds=>K (leave own H.length H' (tP ds)).1 (leave own H.length H' (tP ds)).2) .mk) .mk)->∃d H',(match kill s.marks s.H with
  | some H1=>match results fn { s with H:=H1 }with
   | some d=>some (leave own H.length H1 d)
   | none=>none
  | none=>none)=some (d,H')/\K d H':=by
  rintro s ⟨H1,h1,ds,j,e⟩;rw[h1];refine⟨_,_,?_,e⟩;unfold AL.results;dsimp only;rw[j]
  cases ds with
  | nil=>rfl
  | cons a l=>cases l<;>rfl
 refine Wf.call own g hl (i▸(XC.wc h).mono λo b=>?_)
 cases o with
 | norm s=>exact key s b
 | ret s=>exact key s b
 | exit=>exact b.elim
theorem Wf.xo(own:Nat){f:FuncId}{args:List D}{H:U}{fn:iP}{K:D->U->Prop}(b:T.fn f=some fn)(hl:args.length<=fn.ntmps)
  (h:XC T fn.body { env:=s7 args,H:=H } (yu fn.results own H.length K)) (a:s9 fn.body=true:=by rfl):Wf T f args H K:=Wf.xz own fn.body b hl (oP a) h
theorem Wf.x{f:FuncId}{args:List D}{H:U}{fn:iP}{K:D->U->Prop}(b:T.fn f=some fn)(hl:args.length<=fn.ntmps)
  (h:XC T fn.body { env:=s7 args,H:=H } (yu fn.results fn.own H.length K)) (a:s9 fn.body=true:=by rfl):Wf T f args H K:=Wf.xo fn.own b hl h a
theorem fY.is{f:FuncId}{args:List D}{dst:Option Nat}{s:St}{K:St->Prop}{fn:iP}{K0:D->U->Prop}(b:T.fn f=some fn)(a:fn.full=false)(h:Wf T f (args.map (fL (λ_=>none) s.H 40)) [] K0)
  (k:∀d Hn,K0 d Hn->oA (after s dst args d Hn) K .mk):fY T f args dst s K .mk:=.inl ⟨fn,b,a,Wf.mono h k⟩
theorem fY.lW{f:FuncId}{args:List D}{dst:Option Nat}{s:St}{K:St->Prop}{fn:iP}{K0:D->U->Prop}(b:T.fn f=some fn)(a:fn.full=true)(h:Wf T f args s.H K0)
  (k:∀d H',K0 d H'->K { s with env:=put s.env dst d,H:=H' }):fY T f args dst s K .mk:=.inr ⟨fn,b,a,Wf.mono h k⟩
theorem fY.c{f:FuncId}{args:List D}{dst:Option Nat}{s:St}{K:St->Prop}{fn:iP}{x:D}(e:T.fn f=some fn)(c:fn.full=false)(h:Wf T f args [] λd H'=>d=x/\H' = [])
  (a:gh args=true) (b:closed x=true) (k:K { s with env:=put s.env dst x }):fY T f args dst s K .mk:=by
 refine fY.is e c (K0:=λd H'=>d=x/\H' = []) ?_ ?_
 .have i:args.map (fL (λ_=>none) s.H 40)=args:=by
   conv=>rhs;rw[<-aT args]
   exact ak λd g=>pF (lS a d g)
  rw[i];exact h
 .rintro d Hn ⟨rfl,rfl⟩;obtain⟨k1,k2⟩:=En (H:=s.H) b;refine⟨{ s with env:=put s.env dst d },?_,k⟩;unfold after;rw[if_pos a,k1,k2];simp
theorem fY.r{f:FuncId}{args nN:List D}{dst:Option Nat}{s:St}{K:St->Prop}{fn:iP}{x:D}(e:T.fn f=some fn)(c:fn.full=false)(h:Wf T f nN [] λd H'=>d=x/\H' = [])
  (hs:args.map (fL (λ_=>none) s.H 40)=nN) (b:flat x=true) (a:closed x=true) (k:K { s with env:=put s.env dst x }):fY T f args dst s K .mk:=by
 refine fY.is e c (K0:=λd H'=>d=x/\H' = []) (by rw[hs];exact h) ?_;rintro d Hn ⟨rfl,rfl⟩;obtain⟨k1,k2⟩:=En (H:=s.H) a;refine⟨{ s with env:=put s.env dst d },?_,k⟩;have:n5 d=true:=(Of (H:=s.H) b).1;unfold after;rw[this,k1,k2];simp
theorem iF.c{f:FuncId}{args:List D}{R:List Fp}{dst:Option Nat}{s:St}{Q:Rc->St->Prop}{fn:iP}{x:D}(e:T.fn f=some fn)(c:fn.full=false)(h:Wf T f args [] λd H'=>d=x/\H' = [])
  (a:gh args=true) (b:closed x=true) (k:Q ⟨R,[]⟩ { s with env:=put s.env dst x }):iF T f args R dst s Q .mk:=by
 refine⟨fn,x,e,c,?_,by rw[if_pos a];exact b,k⟩
 have i:args.map (fL (λ_=>none) s.H 40)=args:=by
  conv=>rhs;rw[<-aT args]
  exact ak λd g=>pF (lS a d g)
 rw[i];exact h
theorem iF.r{f:FuncId}{args nN:List D}{R:List Fp}{dst:Option Nat}{s:St}{Q:Rc->St->Prop}{fn:iP}{x:D}(b:T.fn f=some fn)(a:fn.full=false)(h:Wf T f nN [] λd H'=>d=x/\H' = [])
  (hs:args.map (fL (λ_=>none) s.H 40)=nN) (e:flat x=true) (c:closed x=true) (k:Q ⟨R,[]⟩ { s with env:=put s.env dst x }):iF T f args R dst s Q .mk:=
 ⟨fn,x,b,a,by rw[hs];exact h,by split<;>assumption,k⟩
variable{s:St}{K:iE}{a b:IR}{l:List gI}{op:iu}{k j:Nat}
@[simp ↓] theorem ami:XC T .skip s K=K (.norm s):=(rfl)
@[simp ↓] theorem ame:XC T (.ops l) s K=XO T l s λa=>K (.norm a):=(rfl)
@[simp ↓] theorem al8{a:List (Nat×Nat)}:XC T (.lF a l) s K=XT T l s λrs b=>uZ a rs=true/\K (.norm b):=(rfl)
@[simp ↓] theorem al9{b:List (Nat×Nat)}{es:List gI}:XC T (.mj b l es) s K=XT T l s λrs a=>uZ b rs=true/\XO T es a λa=>K (.norm a):=(rfl)
@[simp ↓] theorem amh:XC T (.seq a b) s K=XC T a s (Mn T b K):=(rfl)
@[simp ↓] theorem al7{c:X}:XC T (.cond c a b) s K=XB (ev s.env.get c) (XC T a s K) (XC T b s K) .mk:=(rfl)
@[simp ↓] theorem al6{id:Nat}{live:List Nat}:XC T (.block id live a) s K=XC T a s (wG id s.H.length live K):=(rfl)
@[simp ↓] theorem amd{live:List Nat}:XC T (.loop live a) s K=fO T live a s K .mk:=(rfl)
@[simp ↓] theorem amf{rf:Nat}{live:List Nat}{x:X}:XC T (.nv rf live x) s K=x4 T rf live x s K .mk:=(rfl)
@[simp ↓] theorem amb{S:List Nat}:XC T (.fz S a) s K=(vY s.marks (pk s.env S)=true/\XC T a (lH (pk s.env S) s) K):=(rfl)
@[simp ↓] theorem amc{S:List Nat}{x y:List gI}:XC T (.uo S x y) s K=XO T x s λa=>vY a.marks (pk a.env S)=true/\XO T y (lH (pk a.env S) a) λa=>K (.norm a):=(rfl)
@[simp ↓] theorem ama{id:Nat}:XC T (.exit id) s K=K (.exit id s):=(rfl)
@[simp ↓] theorem amg:XC T .ret s K=K (.ret s):=(rfl)
@[simp ↓] theorem atd:Mn T b K (.norm s)=XC T b s K:=(rfl)
@[simp ↓] theorem atc{id:Nat}:Mn T b K (.exit id s)=K (.exit id s):=(rfl)
@[simp ↓] theorem ate:Mn T b K (.ret s)=K (.ret s):=(rfl)
@[simp ↓] theorem SM{id n:Nat}{live:List Nat}:wG id n live K (.norm s)=K (.norm (cut n live s)):=(rfl)
@[simp ↓] theorem aoO{id n:Nat}{live:List Nat}:wG id n live K (.ret s)=K (.ret s):=(rfl)
@[simp ↓] theorem SN{id n:Nat}{live:List Nat}:wG id n live K (.exit id s)=K (.norm (cut n live s)):=by simp[wG,lh]
@[simp ↓] theorem aoN{id a n:Nat}{live:List Nat}(h:a≠id):wG id n live K (.exit a s)=K (.exit a s):=by simp[wG,lh,h]
@[simp ↓] theorem aqA{rs:List tX}{own n:Nat}{K:D->U->Prop}:yu rs own n K (.ret s)=oA (kill s.marks s.H) (λH=>oA (tQ { s with H:=H } rs) (λds=>K (leave own n H (tP ds)).1 (leave own n H (tP ds)).2) .mk) .mk:=(rfl)
@[simp ↓] theorem aqz{rs:List tX}{own n:Nat}{K:D->U->Prop}:yu rs own n K (.norm s)=oA (kill s.marks s.H) (λH=>oA (tQ { s with H:=H } rs) (λds=>K (leave own n H (tP ds)).1 (leave own n H (tP ds)).2) .mk) .mk:=(rfl)
@[simp ↓] theorem amp{K:St->Prop}:XO T [] s K=K s:=(rfl)
@[simp ↓] theorem amq{K:St->Prop}:XO T (o k op::l) s K=iA T op (some k) s λa=>XO T l a K:=by simp[XO,guardOf]
@[simp ↓] theorem ams{K:St->Prop}:XO T (u op::l) s K=iA T op none s λa=>XO T l a K:=by simp[XO,guardOf]
@[simp ↓] theorem amr{g:Bool}{K:St->Prop}:XO T (og j g k op::l) s K=XG (guardOf s.env.get (some (j,g))) (iA T op (some k) s λa=>XO T l a K) (XO T l { s with env:=(k,.val undef)::s.env } K) .mk:=(rfl)
@[simp ↓] theorem amt{g:Bool}{K:St->Prop}:XO T (ug j g op::l) s K=XG (guardOf s.env.get (some (j,g))) (iA T op none s λa=>XO T l a K) (XO T l s K) .mk:=(rfl)
@[simp ↓] theorem anj{Q:List Rc->St->Prop}:XT T [] s Q=Q [] s:=(rfl)
@[simp ↓] theorem ank{Q:List Rc->St->Prop}:XT T (o k op::l) s Q=jv T op (some k) s λrc b=>XT T l b λrs a=>Q (rc::rs) a:=by simp[XT,guardOf]
@[simp ↓] theorem anm{Q:List Rc->St->Prop}:XT T (u op::l) s Q=jv T op none s λrc b=>XT T l b λrs a=>Q (rc::rs) a:=by simp[XT,guardOf]
@[simp ↓] theorem anl{g:Bool}{Q:List Rc->St->Prop}:XT T (og j g k op::l) s Q=XG (guardOf s.env.get (some (j,g))) (jv T op (some k) s λrc b=>XT T l b λrs a=>Q (rc::rs) a) (XT T l { s with env:=(k,.val undef)::s.env } λrs a=>Q (⟨[],[]⟩::rs) a) .mk:=(rfl)
@[simp ↓] theorem ann{g:Bool}{Q:List Rc->St->Prop}:XT T (ug j g op::l) s Q=XG (guardOf s.env.get (some (j,g))) (jv T op none s λrc b=>XT T l b λrs a=>Q (rc::rs) a) (XT T l s λrs a=>Q (⟨[],[]⟩::rs) a) .mk:=(rfl)
@[simp ↓] theorem ar6{dst:Option Nat}{K:St->Prop}{d:D}{δ:Dl}:kp s dst K (d,δ)=K { s with env:=put s.env dst d,H:=δ.app s.H (Al.last s.H) }:=(rfl)
@[simp ↓] theorem ar7{dst:Option Nat}{R:List Fp}{Q:Rc->St->Prop}{d:D}{δ:Dl}:kt s dst R Q (d,δ)=Q ⟨R,jy s.H.length δ⟩ { s with env:=put s.env dst d,H:=δ.app s.H (Al.last s.H) }:=(rfl)
section
variable{dst:Option Nat}{K:St->Prop}{Q:Rc->St->Prop}
@[simp ↓] theorem am3{x:X}:iA T (.mv x) dst s K=oA (gv s.env.get s.H s.H.length (.mv x)) (kp s dst K) .mk:=(rfl)
@[simp ↓] theorem anS{x:X}:jv T (.mv x) dst s Q=oA (gv s.env.get s.H s.H.length (.mv x)) (kt s dst (gA s.env.get s.H (.mv x)) Q) .mk:=(rfl)
@[simp ↓] theorem am8{c a b:X}:iA T (.pick c a b) dst s K=oA (gv s.env.get s.H s.H.length (.pick c a b)) (kp s dst K) .mk:=(rfl)
@[simp ↓] theorem anU{c a b:X}:jv T (.pick c a b) dst s Q=oA (gv s.env.get s.H s.H.length (.pick c a b)) (kt s dst (gA s.env.get s.H (.pick c a b)) Q) .mk:=(rfl)
@[simp ↓] theorem amz{t:TypeId}{x:X}:iA T (.box t x) dst s K=oA (gv s.env.get s.H s.H.length (.box t x)) (kp s dst K) .mk:=(rfl)
@[simp ↓] theorem ans{t:TypeId}{x:X}:jv T (.box t x) dst s Q=oA (gv s.env.get s.H s.H.length (.box t x)) (kt s dst (gA s.env.get s.H (.box t x)) Q) .mk:=(rfl)
@[simp ↓] theorem amu{t:TypeId}{z:List D}:iA T (.alloc t z) dst s K=oA (gv s.env.get s.H s.H.length (.alloc t z)) (kp s dst K) .mk:=(rfl)
@[simp ↓] theorem ano{t:TypeId}{z:List D}:jv T (.alloc t z) dst s Q=oA (gv s.env.get s.H s.H.length (.alloc t z)) (kt s dst (gA s.env.get s.H (.alloc t z)) Q) .mk:=(rfl)
@[simp ↓] theorem amA{z:List D}{ps:List (Nat×Nat×X)}:iA T (.build z ps) dst s K=oA (gv s.env.get s.H s.H.length (.build z ps)) (kp s dst K) .mk:=(rfl)
@[simp ↓] theorem ant{z:List D}{ps:List (Nat×Nat×X)}:jv T (.build z ps) dst s Q=oA (gv s.env.get s.H s.H.length (.build z ps)) (kt s dst (gA s.env.get s.H (.build z ps)) Q) .mk:=(rfl)
@[simp ↓] theorem amB{t sz:Nat}{z:List D}{n:Nat}{ps:List (Nat×X)}:iA T (.buildSl t sz z n ps) dst s K=oA (gv s.env.get s.H s.H.length (.buildSl t sz z n ps)) (kp s dst K) .mk:=(rfl)
@[simp ↓] theorem anu{t sz:Nat}{z:List D}{n:Nat}{ps:List (Nat×X)}:jv T (.buildSl t sz z n ps) dst s Q=oA (gv s.env.get s.H s.H.length (.buildSl t sz z n ps)) (kt s dst (gA s.env.get s.H (.buildSl t sz z n ps)) Q) .mk:=(rfl)
@[simp ↓] theorem amT{x:X}:iA T (.ld1 x) dst s K=oA (gv s.env.get s.H s.H.length (.ld1 x)) (kp s dst K) .mk:=(rfl)
@[simp ↓] theorem anJ{x:X}:jv T (.ld1 x) dst s Q=oA (gv s.env.get s.H s.H.length (.ld1 x)) (kt s dst (gA s.env.get s.H (.ld1 x)) Q) .mk:=(rfl)
@[simp ↓] theorem amU{n:Nat}{x:X}:iA T (.ldN n x) dst s K=oA (gv s.env.get s.H s.H.length (.ldN n x)) (kp s dst K) .mk:=(rfl)
@[simp ↓] theorem anK{n:Nat}{x:X}:jv T (.ldN n x) dst s Q=oA (gv s.env.get s.H s.H.length (.ldN n x)) (kt s dst (gA s.env.get s.H (.ldN n x)) Q) .mk:=(rfl)
@[simp ↓] theorem ang{a x:X}:iA T (.st1 a x) dst s K=oA (gv s.env.get s.H s.H.length (.st1 a x)) (kp s dst K) .mk:=(rfl)
@[simp ↓] theorem anZ{a x:X}:jv T (.st1 a x) dst s Q=oA (gv s.env.get s.H s.H.length (.st1 a x)) (kt s dst (gA s.env.get s.H (.st1 a x)) Q) .mk:=(rfl)
@[simp ↓] theorem anh{n:Nat}{a x:X}:iA T (.stN n a x) dst s K=oA (gv s.env.get s.H s.H.length (.stN n a x)) (kp s dst K) .mk:=(rfl)
@[simp ↓] theorem an0{n:Nat}{a x:X}:jv T (.stN n a x) dst s Q=oA (gv s.env.get s.H s.H.length (.stN n a x)) (kt s dst (gA s.env.get s.H (.stN n a x)) Q) .mk:=(rfl)
@[simp ↓] theorem am7{x:X}:iA T (.nilck x) dst s K=oA (gv s.env.get s.H s.H.length (.nilck x)) (kp s dst K) .mk:=(rfl)
@[simp ↓] theorem anT{x:X}:jv T (.nilck x) dst s Q=oA (gv s.env.get s.H s.H.length (.nilck x)) (kt s dst (gA s.env.get s.H (.nilck x)) Q) .mk:=(rfl)
@[simp ↓] theorem amx{op:BinOp}{x y:X}:iA T (.arith op x y) dst s K=oA (gv s.env.get s.H s.H.length (.arith op x y)) (kp s dst K) .mk:=(rfl)
@[simp ↓] theorem anq{op:BinOp}{x y:X}:jv T (.arith op x y) dst s Q=oA (gv s.env.get s.H s.H.length (.arith op x y)) (kt s dst (gA s.env.get s.H (.arith op x y)) Q) .mk:=(rfl)
@[simp ↓] theorem amL{a:Bool}{ls:List mg}{neg:Bool}{x y:X}:iA T (.eqS a ls neg x y) dst s K=oA (gv s.env.get s.H s.H.length (.eqS a ls neg x y)) (kp s dst K) .mk:=(rfl)
@[simp ↓] theorem anB{a:Bool}{ls:List mg}{neg:Bool}{x y:X}:jv T (.eqS a ls neg x y) dst s Q=oA (gv s.env.get s.H s.H.length (.eqS a ls neg x y)) (kt s dst (gA s.env.get s.H (.eqS a ls neg x y)) Q) .mk:=(rfl)
@[simp ↓] theorem ani{op:UnOp}{x:X}:iA T (.un op x) dst s K=oA (gv s.env.get s.H s.H.length (.un op x)) (kp s dst K) .mk:=(rfl)
@[simp ↓] theorem an1{op:UnOp}{x:X}:jv T (.un op x) dst s Q=oA (gv s.env.get s.H s.H.length (.un op x)) (kt s dst (gA s.env.get s.H (.un op x)) Q) .mk:=(rfl)
@[simp ↓] theorem amH{k:IntKind}{x:X}:iA T (.conv k x) dst s K=oA (gv s.env.get s.H s.H.length (.conv k x)) (kp s dst K) .mk:=(rfl)
@[simp ↓] theorem anz{k:IntKind}{x:X}:jv T (.conv k x) dst s Q=oA (gv s.env.get s.H s.H.length (.conv k x)) (kt s dst (gA s.env.get s.H (.conv k x)) Q) .mk:=(rfl)
@[simp ↓] theorem amy{x:X}:iA T (.b2s x) dst s K=oA (gv s.env.get s.H s.H.length (.b2s x)) (kp s dst K) .mk:=(rfl)
@[simp ↓] theorem anr{x:X}:jv T (.b2s x) dst s Q=oA (gv s.env.get s.H s.H.length (.b2s x)) (kt s dst (gA s.env.get s.H (.b2s x)) Q) .mk:=(rfl)
@[simp ↓] theorem am0{fn:Fn}{first a:List X}:iA T (.mkfn fn first a) dst s K=oA (gv s.env.get s.H s.H.length (.mkfn fn first a)) (kp s dst K) .mk:=(rfl)
@[simp ↓] theorem anP{fn:Fn}{first a:List X}:jv T (.mkfn fn first a) dst s Q=oA (gv s.env.get s.H s.H.length (.mkfn fn first a)) (kt s dst (gA s.env.get s.H (.mkfn fn first a)) Q) .mk:=(rfl)
@[simp ↓] theorem am1{kk:KK}:iA T (.mkmap kk) dst s K=oA (gv s.env.get s.H s.H.length (.mkmap kk)) (kp s dst K) .mk:=(rfl)
@[simp ↓] theorem anQ{kk:KK}:jv T (.mkmap kk) dst s Q=oA (gv s.env.get s.H s.H.length (.mkmap kk)) (kt s dst (gA s.env.get s.H (.mkmap kk)) Q) .mk:=(rfl)
@[simp ↓] theorem am2{t sz bytes:Nat}{z:List D}{l c:X}:iA T (.mksl t sz bytes z l c) dst s K=oA (gv s.env.get s.H s.H.length (.mksl t sz bytes z l c)) (kp s dst K) .mk:=(rfl)
@[simp ↓] theorem anR{t sz bytes:Nat}{z:List D}{l c:X}:jv T (.mksl t sz bytes z l c) dst s Q=oA (gv s.env.get s.H s.H.length (.mksl t sz bytes z l c)) (kt s dst (gA s.env.get s.H (.mksl t sz bytes z l c)) Q) .mk:=(rfl)
@[simp ↓] theorem anb{sz:Nat}{x:X}{lo hi:Option X}:iA T (.slc sz x lo hi) dst s K=oA (gv s.env.get s.H s.H.length (.slc sz x lo hi)) (kp s dst K) .mk:=(rfl)
@[simp ↓] theorem anV{sz:Nat}{x:X}{lo hi:Option X}:jv T (.slc sz x lo hi) dst s Q=oA (gv s.env.get s.H s.H.length (.slc sz x lo hi)) (kt s dst (gA s.env.get s.H (.slc sz x lo hi)) Q) .mk:=(rfl)
@[simp ↓] theorem anc{sz:Nat}{x:X}{lo:Option X}{hi mx:X}:iA T (.slc3 sz x lo hi mx) dst s K=oA (gv s.env.get s.H s.H.length (.slc3 sz x lo hi mx)) (kp s dst K) .mk:=(rfl)
@[simp ↓] theorem anW{sz:Nat}{x:X}{lo:Option X}{hi mx:X}:jv T (.slc3 sz x lo hi mx) dst s Q=oA (gv s.env.get s.H s.H.length (.slc3 sz x lo hi mx)) (kt s dst (gA s.env.get s.H (.slc3 sz x lo hi mx)) Q) .mk:=(rfl)
@[simp ↓] theorem ane{sz n:Nat}{x:X}{lo hi:Option X}:iA T (.slcArr sz n x lo hi) dst s K=oA (gv s.env.get s.H s.H.length (.slcArr sz n x lo hi)) (kp s dst K) .mk:=(rfl)
@[simp ↓] theorem anX{sz n:Nat}{x:X}{lo hi:Option X}:jv T (.slcArr sz n x lo hi) dst s Q=oA (gv s.env.get s.H s.H.length (.slcArr sz n x lo hi)) (kt s dst (gA s.env.get s.H (.slcArr sz n x lo hi)) Q) .mk:=(rfl)
@[simp ↓] theorem anf{x:X}{lo hi:Option X}:iA T (.slcS x lo hi) dst s K=oA (gv s.env.get s.H s.H.length (.slcS x lo hi)) (kp s dst K) .mk:=(rfl)
@[simp ↓] theorem anY{x:X}{lo hi:Option X}:jv T (.slcS x lo hi) dst s Q=oA (gv s.env.get s.H s.H.length (.slcS x lo hi)) (kt s dst (gA s.env.get s.H (.slcS x lo hi)) Q) .mk:=(rfl)
@[simp ↓] theorem amO{off:Nat}{x:X}:iA T (.fieldA off x) dst s K=oA (gv s.env.get s.H s.H.length (.fieldA off x)) (kp s dst K) .mk:=(rfl)
@[simp ↓] theorem anE{off:Nat}{x:X}:jv T (.fieldA off x) dst s Q=oA (gv s.env.get s.H s.H.length (.fieldA off x)) (kt s dst (gA s.env.get s.H (.fieldA off x)) Q) .mk:=(rfl)
@[simp ↓] theorem amN{off n:Nat}{a:Bool}{x:X}:iA T (.field off n a x) dst s K=oA (gv s.env.get s.H s.H.length (.field off n a x)) (kp s dst K) .mk:=(rfl)
@[simp ↓] theorem anD{off n:Nat}{a:Bool}{x:X}:jv T (.field off n a x) dst s Q=oA (gv s.env.get s.H s.H.length (.field off n a x)) (kt s dst (gA s.env.get s.H (.field off n a x)) Q) .mk:=(rfl)
@[simp ↓] theorem amQ{sz:Nat}{x i:X}:iA T (.idxA sz x i) dst s K=oA (gv s.env.get s.H s.H.length (.idxA sz x i)) (kp s dst K) .mk:=(rfl)
@[simp ↓] theorem anG{sz:Nat}{x i:X}:jv T (.idxA sz x i) dst s Q=oA (gv s.env.get s.H s.H.length (.idxA sz x i)) (kt s dst (gA s.env.get s.H (.idxA sz x i)) Q) .mk:=(rfl)
@[simp ↓] theorem amR{sz n:Nat}{x i:X}:iA T (.idxArr sz n x i) dst s K=oA (gv s.env.get s.H s.H.length (.idxArr sz n x i)) (kp s dst K) .mk:=(rfl)
@[simp ↓] theorem anH{sz n:Nat}{x i:X}:jv T (.idxArr sz n x i) dst s Q=oA (gv s.env.get s.H s.H.length (.idxArr sz n x i)) (kt s dst (gA s.env.get s.H (.idxArr sz n x i)) Q) .mk:=(rfl)
@[simp ↓] theorem amP{sz n:Nat}{a:Bool}{x i:X}:iA T (.idx sz n a x i) dst s K=oA (gv s.env.get s.H s.H.length (.idx sz n a x i)) (kp s dst K) .mk:=(rfl)
@[simp ↓] theorem anF{sz n:Nat}{a:Bool}{x i:X}:jv T (.idx sz n a x i) dst s Q=oA (gv s.env.get s.H s.H.length (.idx sz n a x i)) (kt s dst (gA s.env.get s.H (.idx sz n a x i)) Q) .mk:=(rfl)
@[simp ↓] theorem amS{x i:X}:iA T (.idxStr x i) dst s K=oA (gv s.env.get s.H s.H.length (.idxStr x i)) (kp s dst K) .mk:=(rfl)
@[simp ↓] theorem anI{x i:X}:jv T (.idxStr x i) dst s Q=oA (gv s.env.get s.H s.H.length (.idxStr x i)) (kt s dst (gA s.env.get s.H (.idxStr x i)) Q) .mk:=(rfl)
@[simp ↓] theorem amW{kk:KK}{z:D}{ok:Bool}{m k:X}:iA T (.lookup kk z ok m k) dst s K=oA (gv s.env.get s.H s.H.length (.lookup kk z ok m k)) (kp s dst K) .mk:=(rfl)
@[simp ↓] theorem anM{kk:KK}{z:D}{ok:Bool}{m k:X}:jv T (.lookup kk z ok m k) dst s Q=oA (gv s.env.get s.H s.H.length (.lookup kk z ok m k)) (kt s dst (gA s.env.get s.H (.lookup kk z ok m k)) Q) .mk:=(rfl)
@[simp ↓] theorem amY{kk:KK}{m k v:X}:iA T (.mapUpd kk m k v) dst s K=oA (gv s.env.get s.H s.H.length (.mapUpd kk m k v)) (kp s dst K) .mk:=(rfl)
@[simp ↓] theorem anN{kk:KK}{m k v:X}:jv T (.mapUpd kk m k v) dst s Q=oA (gv s.env.get s.H s.H.length (.mapUpd kk m k v)) (kt s dst (gA s.env.get s.H (.mapUpd kk m k v)) Q) .mk:=(rfl)
@[simp ↓] theorem amM{x:X}{i:Nat}:iA T (.ext x i) dst s K=oA (gv s.env.get s.H s.H.length (.ext x i)) (kp s dst K) .mk:=(rfl)
@[simp ↓] theorem anC{x:X}{i:Nat}:jv T (.ext x i) dst s Q=oA (gv s.env.get s.H s.H.length (.ext x i)) (kt s dst (gA s.env.get s.H (.ext x i)) Q) .mk:=(rfl)
@[simp ↓] theorem amC{f:FuncId}{args:List X}:iA T (.call f args) dst s K=fY T f (args.map (ev s.env.get)) dst s K .mk:=(rfl)
@[simp ↓] theorem anv{f:FuncId}{args:List X}:jv T (.call f args) dst s Q=iF T f (args.map (ev s.env.get)) (gA s.env.get s.H (.call f args)) dst s Q .mk:=(rfl)
@[simp ↓] theorem amD{f:FuncId}{args:List X}:iA T (.callN f args) dst s K=fY T f (args.map (ev s.env.get)) dst s K .mk:=(rfl)
@[simp ↓] theorem anw{f:FuncId}{args:List X}:jv T (.callN f args) dst s Q=pK T f (args.map (ev s.env.get)) (gA s.env.get s.H (.callN f args)) dst s Q .mk:=(rfl)
@[simp ↓] theorem amE{f:X}{args:List X}:iA T (.callv f args) dst s K=vq T (ev s.env.get f) (args.map (ev s.env.get)) dst s K .mk:=(rfl)
@[simp] theorem amj{k:FuncId}{first cap args:List D}:vq T (.fn (.func k) first cap) args dst s K .mk=fY T k (first++args++cap) dst s K .mk:=by show oA (some (k,first++args++cap)) (λp=>fY T p.1 p.2 dst s K .mk) .mk=_;simp only[y9]
@[simp] theorem amk{v:Nat}{args:List D}:vq T (.iH v) args dst s K .mk=rK T v args dst s K .mk:=(rfl)
@[simp ↓] theorem anx{f:X}{args:List X}:jv T (.callv f args) dst s Q=oA (kb s.env.get (.callv f args)) (λp=>iF T p.1 p.2 (gA s.env.get s.H (.callv f args)) dst s Q .mk) .mk:=(rfl)
@[simp ↓] theorem amv{t sz bytes:Nat}{x y:X}:iA T (.app t sz bytes x y) dst s K=oA (gv s.env.get s.H s.H.length (.app t sz bytes x y)) (kp s dst K) .mk:=(rfl)
@[simp ↓] theorem anp{t sz bytes:Nat}{x y:X}:jv T (.app t sz bytes x y) dst s Q=oA (gv s.env.get s.H s.H.length (.app t sz bytes x y)) (kt s dst (gA s.env.get s.H (.app t sz bytes x y)) Q) .mk:=(rfl)
@[simp ↓] theorem amI{sz:Nat}{x y:X}:iA T (.copy sz x y) dst s K=oA (gv s.env.get s.H s.H.length (.copy sz x y)) (kp s dst K) .mk:=(rfl)
@[simp ↓] theorem anA{sz:Nat}{x y:X}:jv T (.copy sz x y) dst s Q=oA (gv s.env.get s.H s.H.length (.copy sz x y)) (kt s dst (gA s.env.get s.H (.copy sz x y)) Q) .mk:=(rfl)
@[simp ↓] theorem amV{k:zy}{x:X}:iA T (.len k x) dst s K=oA (gv s.env.get s.H s.H.length (.len k x)) (kp s dst K) .mk:=(rfl)
@[simp ↓] theorem anL{k:zy}{x:X}:jv T (.len k x) dst s Q=oA (gv s.env.get s.H s.H.length (.len k x)) (kt s dst (gA s.env.get s.H (.len k x)) Q) .mk:=(rfl)
@[simp ↓] theorem amZ{a:Bool}{xs:List X}:iA T (.minmax a xs) dst s K=oA (gv s.env.get s.H s.H.length (.minmax a xs)) (kp s dst K) .mk:=(rfl)
@[simp ↓] theorem anO{a:Bool}{xs:List X}:jv T (.minmax a xs) dst s Q=oA (gv s.env.get s.H s.H.length (.minmax a xs)) (kt s dst (gA s.env.get s.H (.minmax a xs)) Q) .mk:=(rfl)
@[simp ↓] theorem am6{neg:Bool}{x:X}:iA T (.nilS neg x) dst s K=oA (l5 s.env.get s.H s.H.length (.nilS neg x)) (kp s dst K) .mk:=(rfl)
@[simp ↓] theorem amF{x:X}:iA T (.capE x) dst s K=oA (l5 s.env.get s.H s.H.length (.capE x)) (kp s dst K) .mk:=(rfl)
@[simp ↓] theorem amw{t sz bytes:Nat}{z:List D}{x n:X}:iA T (.appZ t sz bytes z x n) dst s K=oA (l5 s.env.get s.H s.H.length (.appZ t sz bytes z x n)) (kp s dst K) .mk:=(rfl)
@[simp ↓] theorem amG{sz:Nat}{z:List D}{x:X}:iA T (.clr sz z x) dst s K=oA (l5 s.env.get s.H s.H.length (.clr sz z x)) (kp s dst K) .mk:=(rfl)
@[simp ↓] theorem ana{x:X}:iA T (.rangeS x) dst s K=oA (l5 s.env.get s.H s.H.length (.rangeS x)) (kp s dst K) .mk:=(rfl)
@[simp ↓] theorem am5{x:X}:iA T (.nextS x) dst s K=oA (l5 s.env.get s.H s.H.length (.nextS x)) (kp s dst K) .mk:=(rfl)
@[simp ↓] theorem am9{x:X}:iA T (.rangeM x) dst s K=oA (l5 s.env.get s.H s.H.length (.rangeM x)) (kp s dst K) .mk:=(rfl)
@[simp ↓] theorem am4{x:X}:iA T (.nextM x) dst s K=tZ (ev s.env.get x) dst s K .mk:=(rfl)
@[simp ↓] theorem amX{kk:KK}{z:D}{m k:X}:iA T (.mapEnt kk z m k) dst s K=oA (l5 s.env.get s.H s.H.length (.mapEnt kk z m k)) (kp s dst K) .mk:=(rfl)
@[simp ↓] theorem amJ{m k x:X}:iA T (.entSt m k x) dst s K=oA (l5 s.env.get s.H s.H.length (.entSt m k x)) (kp s dst K) .mk:=(rfl)
@[simp ↓] theorem amK{x:X}:iA T (.entry x) dst s K=oA (l5 s.env.get s.H s.H.length (.entry x)) (kp s dst K) .mk:=(rfl)
end
end
def xq(n:Nat)(live keys:List Nat)(J:Env->U->List Nat->Bool->Prop)(K:iE):iE:=λo=>match o with
 | .norm s=>J (forget keys (cut n live s).env) (cut n live s).H (cut n live s).marks (cut n live s).ik
 | o=>K o
@[simp ↓] theorem WI{n:Nat}{live keys:List Nat}{J:Env->U->List Nat->Bool->Prop}{K:iE}{s:St}:xq n live keys J K (.norm s)=J (forget keys (cut n live s).env) (cut n live s).H (cut n live s).marks (cut n live s).ik:=(rfl)
@[simp ↓] theorem asM{n:Nat}{live keys:List Nat}{J:Env->U->List Nat->Bool->Prop}{K:iE}{id:Nat}{s:St}:xq n live keys J K (.exit id s)=K (.exit id s):=(rfl)
@[simp ↓] theorem asO{n:Nat}{live keys:List Nat}{J:Env->U->List Nat->Bool->Prop}{K:iE}{s:St}:xq n live keys J K (.ret s)=K (.ret s):=(rfl)
theorem fO.i{T:ia}{live:List Nat}{a:IR}{s:St}{K:iE}{α:Type}(keys:List Nat)(j:(keys.all λk=>live.contains k)=true)(E:α->Env)(f:α->U)(P:α->Prop)(c:α->Nat)(d:α)
  (h0:P d) (p:forget keys s.env=E d) (n:s.H=f d)
  (h:∀x,P x->XC T a { env:=E x,H:=f x,marks:=s.marks,ik:=s.ik } (xq s.H.length live keys (λe H m r=>∃b,e=E b/\H=f b/\m=s.marks/\r=s.ik/\c b<c x/\P b) K)):fO T live a s K .mk:=by
 refine Wc.loop (λm g=>∃x,P x/\m=c x/\({ g with env:=forget keys g.env }:St) = { env:=E x,H:=f x,marks:=s.marks,ik:=s.ik }) (c d) ⟨d,h0,rfl,?_⟩ ?_
 .dsimp only;rw[acH j,p];rw[<-n]
 .rintro m g ⟨x,hP,rfl,l⟩;refine Ev.K5 keys ?_;rw[l];refine(XC.wc (h x hP)).mono λo i=>?_
  cases o with
  | norm v=>
   obtain⟨b,t,z,y,w,u,h1⟩:=i;refine⟨c b,u,b,h1,rfl,?_⟩;rw[t];generalize cut s.H.length live v=q at *;cases q;simp_all
  | exit=>exact i
  | ret=>exact i
theorem fO.j{T:ia}{live:List Nat}{a:IR}{s:St}{K:iE}{α:Type}(b:α)(E:α->Env)(d:α->U)(P:α->Prop)(f:α->Nat)
  (h0:P b) (j:forget ((E b).map (·.1)) s.env=E b) (i:s.H=d b) (g:(((E b).map (·.1)).all λk=>live.contains k)=true)
  (h:∀x,P x->XC T a { env:=E x,H:=d x,marks:=s.marks,ik:=s.ik } (xq s.H.length live ((E b).map (·.1)) (λe H m r=>∃c,e=E c/\H=d c/\m=s.marks/\r=s.ik/\f c<f x/\P c) K)):fO T live a s K .mk:=
 fO.i ((E b).map (·.1)) g E d P f b h0 j i h
@[simp] theorem rR{n:Nat}{live:List Nat}{env:Env}{H:U}{m:List Nat}{r:Bool}(h:H.length<=n):cut n live { env:=env,H:=H,marks:=m,ik:=r } = { env:=forget live env,H:=H,marks:=m,ik:=r }:=Tt h
def Is(x:D):D->U->Prop:=λd Hn=>d=x/\Hn = []
@[simp] theorem alT(x d:D)(H:U):Is x d H=(d=x/\H = []):=rfl
@[simp] theorem auz(x:Bool)(a b:D):Bd (.b x) a b=some (cond x a b):=by cases x<;>rfl
@[simp] theorem atD(c:Bool)(a b d e:D)(P:D->Prop):oA (Bd (bif c then a else b) d e) P .mk=X2 c (oA (Bd a d e) P .mk) (oA (Bd b d e) P .mk) .mk:=by cases c<;>simp
@[simp] theorem Wx{n:Nat}{H:U}{d:D}(h:H.length<=n)(own:Nat):leave own n H d=(d,H):=by unfold leave;rw[if_pos (.inl h)]
@[simp] theorem asl{n:Nat}{H:U}{d:D}:leave 4 n H d=(d,H):=by unfold leave;rw[if_pos (.inr rfl)]
section
variable{P:D->Prop}{a b:Int}
@[simp] theorem atm:oA (jx .add .i64 a b) P .mk=(nq (a+b)/\P (.i (a+b))):=by simp only[jx,if_true];rw[A9,y9]
@[simp] theorem atJ:oA (jx .sub .i64 a b) P .mk=(nq (a-b)/\P (.i (a-b))):=by simp only[jx,if_true];rw[A9,y9]
@[simp] theorem atC:oA (jx .mul .i64 a b) P .mk=(nq (a*b)/\P (.i (a*b))):=by simp only[jx,if_true];rw[A9,y9]
end
def tN(a b:Int):Int:=IntKind.i64.wrap (a.tdiv b)
def fX(a b:Int):Int:=a.tmod b
theorem mO{n:Int}(h:nq n):IntKind.i64.wrap n=n:=by unfold nq at h;simp only[IntKind.wrap,IntKind.bits,IntKind.signed];simp;omega
theorem tO{a b:Int}(h0:0<=a)(h1:a<=9223372036854775807)(c:0<b):tN a b=a / b:=by unfold tN;rw[Int.tdiv_eq_ediv_of_nonneg h0,mO];have e:0<=a / b:=Int.ediv_nonneg h0 (by omega);have d:a / b<=a:=Int.ediv_le_self b h0;exact ic
theorem jd{a b:Int}(h0:0<=a):fX a b=a % b:=Int.tmod_eq_emod_of_nonneg h0
section
variable{P:D->Prop}{a b:Int}{t:Tag P}
@[simp] theorem atE:oA (jx .quo .i64 a b) P t=(b≠0/\P (.i (tN a b))):=by
 cases t;simp only[jx]
 by_cases h:b=0<;>simp[h,tN]
@[simp] theorem atH:oA (jx .rem .i64 a b) P t=(b≠0/\P (.i (fX a b))):=by
 cases t;simp only[jx]
 by_cases h:b=0<;>simp[h,fX]
end
@[simp] theorem arw(n:Int):nq n=(-9223372036854775808<=n/\n<=9223372036854775807):=rfl
def gt{α:Type}[Inhabited α](l:List α)(n:Int):α:=l.getD n.toNat default
theorem fZ{α:Type}[Inhabited α]{l:List α}{n:Int}(h0:0<=n)(h:n<l.length):gt l n∈l:=by unfold gt;rw[List.getD_eq_getElem?_getD,List.getElem?_eq_getElem (by omega),aP];exact bK _
theorem jc{α:Type}[Inhabited α]{l:List α}{n:Int}(h0:0<=n)(h:n<l.length):gt l n=l[n.toNat]:=by unfold gt;rw[List.getD_eq_getElem?_getD,List.getElem?_eq_getElem (by omega),aP]
theorem Lf{α:Type}[Inhabited α]{l:List α}{n:Nat}(h:n<l.length):gt l n=l[n]:=jc (by omega) (by omega)
theorem iO{α:Type}[Inhabited α]{l:List α}{n:Int}(h0:0<=n)(h:n<l.length):l.take (n+1).toNat=l.take n.toNat ++ [gt l n]:=by rw[jc h0 h,<-List.take_succ_eq_append_getElem (by omega)];congr 1;omega
theorem nb{α:Type}[Inhabited α]{l:List α}{n:Int}(h0:0<=n)(h:n<l.length):l.drop n.toNat=gt l n::l.drop (n.toNat+1):=by rw[jc h0 h];exact bL (by omega)
theorem xw{α:Type}[Inhabited α]{l:List α}{x:α}:x∈l↔∃n:Int,0<=n/\n<l.length/\gt l n=x:=by
 constructor
 .intro h;obtain⟨i,hi,e⟩:=List.getElem_of_mem h;exact⟨i,by omega,by omega,by rw[Lf hi,e]⟩
 .rintro⟨n,h0,h1,rfl⟩;exact fZ h0 h1
theorem kG{α:Type}{l:List α}{n:Int}(h:(l.length:Int)<=n):l.take n.toNat=l:=af (by omega)
section
variable{α:Type}[Inhabited α]{sz:Nat}{f:α->List D}{P:D->Prop}{k:IntKind}
theorem xy{l:List α}{n:Int}:oA (ma sz (.sl sz (l.map f)) (.val (.int k n))) P .mk=((0<=n/\n<l.length)/\P (.fV (f (gt l n)))):=by
 simp only[ma,List.length_map,true_and,A9,y9];refine propext ⟨λ⟨h,a⟩=>⟨h,?_⟩,λ⟨h,a⟩=>⟨h,?_⟩⟩
 .rw[List.getD_eq_getElem?_getD,ar,List.getElem?_eq_getElem (by omega),aD,aP]at a;unfold gt;rw[List.getD_eq_getElem?_getD,List.getElem?_eq_getElem (by omega),aP];exact a
 .rw[List.getD_eq_getElem?_getD,ar,List.getElem?_eq_getElem (by omega),aD,aP];unfold gt at a;rw[List.getD_eq_getElem?_getD,List.getElem?_eq_getElem (by omega),aP]at a;exact a
@[simp] theorem ats{l:List α}{n:Int}:oA (ma sz (.sl sz (l.map f)) (.val (.int k n))) P .mk=((0<=n/\n<l.length)/\P (.fV (f (gt l n)))):=xy
@[simp] theorem atr{l:List Int}{n:Int}:oA (ma 1 (dI l) (.val (.int k n))) P .mk=((0<=n/\n<l.length)/\P (.fV [.i (gt l n)])):=by unfold dI;rw[xy,Ca]
@[simp] theorem atx{l:List Pos}{n:Int}:oA (ma 5 (gJ l) (.val (.int k n))) P .mk=((0<=n/\n<l.length)/\P (.fV (gt l n).cells)):=xy
@[simp] theorem atw{l:List fE}{n:Int}:oA (ma 2 (gY l) (.val (.int k n))) P .mk=((0<=n/\n<l.length)/\P (.fV [.i (gt l n).1,.i (gt l n).2])):=by unfold gY;rw[xy,Cd]
@[simp] theorem atu{l:List α}{n:Int}:oA (ma sz (dN sz f l) (.val (.int k n))) P .mk=((0<=n/\n<l.length)/\P (.fV (f (gt l n)))):=by
 cases l with
 | nil=>
  simp only[dN,ma,W7,cM];refine propext ⟨λh=>h.elim,λ⟨h,_⟩=>?_⟩;have:=h.1;have:=h.2;simp at this;omega
 | cons a l=>exact xy
end
def GG(H:U)(k:Nat)(ρ:Nat->Option Nat)(v g sz off n:Nat):Option Nat->D
 | some v'=>.fy v' g sz off n
 | none=>match rowAt H v g with
  | some (_,cs)=>if (off+n)*sz<=cs.length then .sl sz (chunks sz n ((cs.drop (off*sz)).map (fL ρ H k)))else .any
  | none=>.any
@[simp] theorem Rk(ρ:Nat->Option Nat)(H:U)(k v g sz off n:Nat):fL ρ H (k+1) (.fy v g sz off n)=GG H k ρ v g sz off n (ρ v):=by rw[fL,if_neg (by simp[closed])];unfold GG;rfl
@[simp] theorem akS(H:U)(k:Nat)(ρ:Nat->Option Nat)(v g sz off n v':Nat):GG H k ρ v g sz off n (some v') = .fy v' g sz off n:=rfl
def GJ(H:U)(k:Nat)(ρ:Nat->Option Nat)(v g off:Nat):Option Nat->D
 | some v'=>.ptr v' g off
 | none=>match rowAt H v g with
  | some (_,cs)=>.fV ((cs.drop off).map (fL ρ H k))
  | none=>.any
@[simp] theorem akX(ρ:Nat->Option Nat)(H:U)(k v g off:Nat):fL ρ H (k+1) (.ptr v g off)=GJ H k ρ v g off (ρ v):=by rw[fL,if_neg (by simp[closed])];unfold GJ;rfl
@[simp] theorem akT(H:U)(k:Nat)(ρ:Nat->Option Nat)(v g off v':Nat):GJ H k ρ v g off (some v') = .ptr v' g off:=rfl
def MO:Option Nat->D
 | some v'=>.gg v'
 | none=>.any
@[simp] theorem akW(ρ:Nat->Option Nat)(H:U)(k v:Nat):fL ρ H (k+1) (.gg v)=MO (ρ v):=by rw[fL,if_neg (by simp[closed])];unfold MO;rfl
@[simp] theorem akR(v:Nat):MO (some v) = .gg v:=rfl
@[simp] theorem avf:MO none = .any:=rfl
@[simp] theorem avp{ρ:Nat->Option Nat}{H:U}{k:Nat}{d:D}(h:closed d=true):fL ρ H k d=d:=pF h
@[simp] theorem Td(cs:List D):closed (.agg cs)=gh cs:=by simp only[closed]
@[simp] theorem ap8(cs:List D):closed (.tup cs)=gh cs:=by simp only[closed]
@[simp] theorem ap4(cs:List D):closed (.fV cs)=gh cs:=by simp only[closed]
@[simp] theorem ap9(v:Value):closed (.val v)=true:=by simp only[closed]
@[simp] theorem ap3:closed .fJ=true:=by simp only[closed]
@[simp] theorem Tf(f:Fn)(a b:List D):closed (.fn f a b)=(gh a&&gh b):=by simp only[closed]
@[simp] theorem ap6(v g sz off n:Nat):closed (.fy v g sz off n)=false:=by simp only[closed]
@[simp] theorem ap7(v g o:Nat):closed (.ptr v g o)=false:=by simp only[closed]
@[simp] theorem aqa(v:Nat):closed (.iH v)=false:=by simp only[closed]
theorem A1{ρ:Nat->Option Nat}{H:U}{k:Nat}{cs:List D}(h:gh cs=true):cs.map (fL ρ H k)=cs:=by
 conv=>rhs;rw[<-aT cs]
 exact ak λd a=>pF (lS h d a)
@[simp] theorem akV(ρ:Nat->Option Nat)(H:U)(k:Nat)(cs:List D):fL ρ H (k+1) (.agg cs) = .agg (cs.map (fL ρ H k)):=by
 by_cases h:closed (.agg cs)=true
 .rw[pF h,A1 (by simpa using h)]
 .rw[fL,if_neg h]
@[simp] theorem akY(ρ:Nat->Option Nat)(H:U)(k:Nat)(cs:List D):fL ρ H (k+1) (.tup cs) = .tup (cs.map (fL ρ H k)):=by
 by_cases h:closed (.tup cs)=true
 .rw[pF h,A1 (by simpa using h)]
 .rw[fL,if_neg h]
@[simp] theorem avq(ρ:Nat->Option Nat)(H:U)(k:Nat)(c:Bool)(a b:D):fL ρ H k (bif c then a else b)=bif c then fL ρ H k a else fL ρ H k b:=by cases c<;>rfl
theorem Ri{ρ:Nat->Option Nat}{H:U}{k:Nat}{cs:List D}(h:gh cs=true):cs.map (fL ρ H (k+1))=cs:=by
 conv=>rhs;rw[<-aT cs]
 exact ak λd a=>pF (lS h d a)
theorem NC{α:Type}{sz:Nat}{f:α->List D}(b:∀a,(f a).length=sz):∀l:List α,chunks sz l.length (l.map f).flatten=l.map f
 | []=>rfl
 | a::l=>by simp only[aG,chunks,List.map_cons,aQ];rw[aV (by rw[b];exact Nat.le_refl _),af (by rw[b];exact Nat.le_refl _),ec (by rw[b];exact Nat.le_refl _),bp (by rw[b];exact Nat.le_refl _),bG,NC b l]
theorem aeE{α:Type}{sz:Nat}{f:α->List D}(c:∀a,(f a).length=sz)(l:List α):(l.map f).flatten.length=l.length*sz:=by
 induction l with
 | nil=>simp
 | cons a l b=>simp only[List.map_cons,aQ,au,c,b,aG,b7];omega
theorem Ks{a b:List D}:gh (a++b)=(gh a&&gh b):=by
 induction a with
 | nil=>rfl
 | cons d a c=>simp only[cy,gh,c,Bool.and_assoc]
theorem aai{α:Type}{f:α->List D}(c:∀a,gh (f a)=true)(l:List α):gh (l.map f).flatten=true:=by
 induction l with
 | nil=>rfl
 | cons a l b=>simp only[List.map_cons,aQ,Ks,c,b];rfl
class Fl {α:Type} (f:α->List D) (sz:outParam Nat):Prop where
 len:∀a,(f a).length=sz
 cl:∀a,gh (f a)=true
instance:Fl f1 1:=⟨λ_=>by simp,λ_=>by simp[gh]⟩
instance:Fl fB 1:=⟨λ_=>by simp,λ_=>by simp[gh]⟩
instance:Fl fS 2:=⟨λ_=>by simp,λ_=>by simp[gh]⟩
instance:Fl fP 1:=⟨λ_=>by simp,λ_=>by simp[gh]⟩
instance:Fl fI 1:=⟨λ_=>by simp,λ_=>by simp[gh]⟩
instance:Fl Pos.cells 5:=⟨λ_=>rfl,λ_=>by simp⟩
instance:Fl Kind.cells 3:=⟨λ_=>rfl,λ_=>by simp⟩
instance:Fl Clause.cells 4:=⟨λ_=>rfl,λ_=>by simp⟩
section
variable{α:Type}{f:α->List D}{sz:Nat}
@[simp] theorem aad:cl f [] = []:=by rw[mY];rfl
@[simp] theorem yg(a b:List α):cl f a++cl f b=cl f (a++b):=by simp[mY]
theorem ph(l:List α)(a:α):cl f l++f a=cl f (l ++ [a]):=by simp[mY]
theorem mi(l:List α)(a:α):cl f (a::l)=f a++cl f l:=by simp[mY]
variable [F:Fl f sz]
include F
@[simp] theorem rO(l:List α):(cl f l).length=l.length*sz:=by rw[mY];exact aeE F.len l
theorem wK:∀(l:List α) (n:Nat),(cl f l).take (n*sz)=cl f (l.take n)
 | [],n=>by simp
 | a::l,0=>by simp
 | a::l,n+1=>by rw[mi,List.take_succ_cons,mi,<-wK l n,b7,dm,F.len,af (by rw[F.len];omega)];congr 2;omega
theorem uf:∀(l:List α) (n:Nat),(cl f l).drop (n*sz)=cl f (l.drop n)
 | [],n=>by simp
 | a::l,0=>by simp
 | a::l,n+1=>by rw[mi,List.drop_succ_cons,<-uf l n,b7,cT,F.len,bp (by rw[F.len];omega),bG];congr 1;omega
@[simp] theorem apK(l:List α):(cl f l).take (l.length*sz)=cl f l:=by rw[wK,cQ]
@[simp] theorem ue(l:List α):gh (cl f l)=true:=by rw[mY];exact aai F.cl l
@[simp] theorem apI{ρ:Nat->Option Nat}{H:U}(l:List α):(cl f l).map (fL ρ H 40)=cl f l:=Ri (ue l)
@[simp] theorem yh{k:Nat}(l:List α):closed (.sl k (l.map f))=true:=by simp only[closed];exact B4 F.cl l
theorem Tb(l:List α)(n j:Nat)(c:j<sz):(cl f l)[n*sz+j]? = (l[n]?).bind λa=>(f a)[j]? := by
 have h:(cl f l)[n*sz+j]? = ((cl f l).drop (n*sz))[j]? := by rw[aH]
 rw[h,uf]
 by_cases b:n<l.length
 .rw[bL b,mi,ah (by rw[F.len];exact c),List.getElem?_eq_getElem b];rfl
 .have d:l[n]? = none:=b6 (eV b);rw[bp (eV b),d];simp
theorem aae(l:List α)(n:Nat)(a:α)(h:n<l.length):(cl f l).take (n*sz)++f a++(cl f l).drop (n*sz+sz)=cl f (l.take n++a::l.drop (n+1)):=by rw[wK,<-b7,uf,<-yg,mi,aI]
end
@[simp] theorem apu(l:List Int)(n:Nat):(cl f1 l).take n=cl f1 (l.take n):=by simpa using wK (f:=f1) l n
@[simp] theorem aps(l:List Int)(n:Nat):(cl f1 l).drop n=cl f1 (l.drop n):=by simpa using uf (f:=f1) l n
@[simp] theorem apt(l:List Int)(n:Int):cl f1 l ++ [.i n]=cl f1 (l ++ [n]):=by rw[<-ph,Ca]
@[simp] theorem apx(l:List (List Int))(x:List Int):cl fI l ++ [dI x]=cl fI (l ++ [x]):=by rw[<-ph,acr]
@[simp] theorem apB(l:List (List fE))(x:List fE):cl fP l ++ [gY x]=cl fP (l ++ [x]):=by rw[<-ph,acs]
@[simp] theorem apD(l:List fE)(a b:Int):cl fS l ++ [.i a,.i b]=cl fS (l ++ [(a,b)]):=by rw[<-ph,Cd]
@[simp] theorem apC(l:List Pos)(a b c:List Int)(r q:Int):cl Pos.cells l ++ [dI a,dI b,dI c,.i r,.i q]=cl Pos.cells (l ++ [⟨a,b,c,r,q⟩]):=by rw[<-ph];rfl
@[simp] theorem auA(p:Pos):Pos.mk p.cs p.h0 p.h1 p.gj p.side=p:=rfl
@[simp] theorem atn{l:List Int}{n:Int}{P:D->Prop}:oA (cl f1 l)[n.toNat]? P .mk=(n.toNat<l.length/\P (.i (gt l n))):=by
 have h:=Tb (f:=f1) l n.toNat 0 (by omega);simp only[ey,cd]at h;rw[h]
 by_cases a:n.toNat<l.length
 .rw[List.getElem?_eq_getElem a];have e:gt l n=l[n.toNat]:=by unfold gt;rw[List.getD_eq_getElem?_getD,List.getElem?_eq_getElem a];rfl
  simp[a,e]
 .rw[b6 (by omega)];simp[a]
@[simp] theorem aff{α:Type}[Inhabited α]{f:α->List D}{sz:Nat}[F:Fl f sz]{l:List α}{t:TypeId}{n:Int}{P:D->Prop}(b:0<sz):oA (tL sz (n.toNat*sz) (some (t,cl f l))) P .mk=(n.toNat<l.length/\P (.agg (f (gt l n)))):=by
 simp only[tL,rO,<-b7];rw[A9,y9];have h:n.toNat.succ*sz<=l.length*sz↔n.toNat<l.length:=eW b;rw[h];refine propext ⟨λ⟨a,p⟩=>⟨a,?_⟩,λ⟨a,p⟩=>⟨a,?_⟩⟩
 .have e:gt l n=l[n.toNat]:=by unfold gt;rw[List.getD_eq_getElem?_getD,List.getElem?_eq_getElem a];rfl
  rw[uf,bL a,mi,aV (by rw[F.len];exact Nat.le_refl _),af (by rw[F.len];exact Nat.le_refl _),<-e]at p;exact p
 .have e:gt l n=l[n.toNat]:=by unfold gt;rw[List.getD_eq_getElem?_getD,List.getElem?_eq_getElem a];rfl
  rw[uf,bL a,mi,aV (by rw[F.len];exact Nat.le_refl _),af (by rw[F.len];exact Nat.le_refl _),<-e];exact p
def ml(ρ:Nat->Option Nat)(H:U)(k sz off n:Nat):Option (TypeId×List D)->D
 | some (_,cs)=>if (off+n)*sz<=cs.length then .sl sz (chunks sz n ((cs.drop (off*sz)).map (fL ρ H k)))else .any
 | none=>.any
@[simp] theorem Yl(H:U)(k:Nat)(ρ:Nat->Option Nat)(v g sz off n:Nat):GG H k ρ v g sz off n none=ml ρ H k sz off n (rowAt H v g):=by unfold GG ml;rfl
@[simp] theorem uq{α:Type}{f:α->List D}{sz:Nat}[F:Fl f sz]{ρ:Nat->Option Nat}{H:U}{k n:Nat}{t:TypeId}{l:List α}(h:n=l.length):ml ρ H (k+1) sz 0 n (some (t,cl f l)) = .sl sz (l.map f):=by subst h;unfold ml;dsimp only;rw[rO,if_pos (by simp),cI,fj,Ri (ue l),mY,NC F.len]
@[simp] theorem aqO{ρ:Nat->Option Nat}{H:U}{k sz:Nat}{p:TypeId×List D}:ml ρ H k sz 0 0 (some p) = .sl sz []:=by unfold ml;simp[chunks]
@[simp] theorem avJ:D.sl 1 []=dI []:=by unfold dI;rfl
@[simp] theorem avK:D.sl 2 []=gY []:=by unfold gY;rfl
@[simp] theorem aqQ{ρ:Nat->Option Nat}{H:U}{k:Nat}{t:TypeId}{a b c:List Int}{r q:Int}:ml ρ H (k+1) 5 0 1 (some (t,[dI a,dI b,dI c,.i r,.i q]))=gJ [⟨a,b,c,r,q⟩]:=by have h:=uq (f:=Pos.cells) (ρ:=ρ) (H:=H) (k:=k) (t:=t) (l:=[⟨a,b,c,r,q⟩]) (n:=1) rfl;rw[mY]at h;unfold gJ;exact h
@[simp] theorem avO(l:List Int):D.sl 1 (l.map f1)=dI l:=by unfold dI;rfl
@[simp] theorem avR(l:List Pos):D.sl 5 (l.map Pos.cells)=gJ l:=by unfold gJ;rfl
@[simp] theorem avQ(l:List fE):D.sl 2 (l.map fS)=gY l:=by unfold gY;rfl
def tS(ρ:Nat->Option Nat)(H:U):Option Ob->Ob
 | some o=>oN ρ H o
 | none=>.dead
@[simp] theorem avo(ρ:Nat->Option Nat)(H:U)(t g:Nat)(cs:List D):tS ρ H (some (.row t g cs)) = .row t g (cs.map (fL ρ H 40)):=rfl
@[simp] theorem avl(ρ:Nat->Option Nat)(H:U)(kk:KK)(es:List (Value×D)):tS ρ H (some (.map kk es)) = .map kk (es.map λx=>(x.1,fL ρ H 40 x.2)):=rfl
@[simp] theorem avj(ρ:Nat->Option Nat)(H:U):tS ρ H (some .dead) = .dead:=rfl
@[simp] theorem avk(ρ:Nat->Option Nat)(H:U):tS ρ H (some .kD) = .kD:=rfl
@[simp] theorem avn(ρ:Nat->Option Nat)(H:U)(rf:Nat)(e:Env)(st:sw):tS ρ H (some (.gV rf e st)) = .gV rf (e.map λx=>(x.1,fL ρ H 40 x.2)) st:=rfl
@[simp] theorem ata:A6 []=false:=(rfl)
@[simp] theorem as9(k:Nat)(l:List Nat):A6 (k::l)=decide (k=9999):=by
 show Nat.beq k 9999=_
 cases a:Nat.beq k 9999 with
 | true=>exact(decide_eq_true (bZ a)).symm
 | false=>exact(decide_eq_false (Nat.ne_of_beq_eq_false a)).symm
@[simp] theorem NN{n:Nat}{l:List Nat}{s:St}:cut n (9999::l) s = { s with env:=forget (9999::l) s.env }:=by unfold cut;dsimp only;rw[if_pos (.inr rfl)]
def NO(env:Env)(H:U)(m:List Nat)(r:Bool)(ks:mP):St:={ env:=env.map λp=>(p.1,fL (il ks) H 40 p.2),H:=ks.map λp=>if p.2 then tS (il ks) H H[p.1]? else .dead,marks:=m.map λv=>(il ks v).getD v,ik:=r }
def QX(n:Nat)(env:Env)(H:U)(m:List Nat):List Nat:=dedup (((env.map λp=>iT n p.2).flatten++((H.take n).map (nZ n)).flatten++m.filter (n<=·)).filter (· < H.length))
@[simp low] theorem rQ{n:Nat}{live:List Nat}{env:Env}{H:U}{m:List Nat}{r:Bool}(h:¬H.length<=n)(a:A6 live=false):cut n live { env:=env,H:=H,marks:=m,ik:=r }=NO (forget live env) H m r (iG n (QX n (forget live env) H m)):=by unfold cut NO QX;dsimp only;rw[if_neg (by rw[a];simpa using h)];rfl
@[simp] theorem arA(K:List Nat):iG 0 K=K.map λv=>(v,true):=rfl
@[simp] theorem arB(K:List Nat):iG 1 K=(0,true)::K.map λv=>(v,true):=rfl
@[simp] theorem arM(K:List Nat):iG 2 K=(0,true)::(1,true)::K.map λv=>(v,true):=rfl
@[simp] theorem arR(K:List Nat):iG 3 K=(0,true)::(1,true)::(2,true)::K.map λv=>(v,true):=rfl
@[simp] theorem arS(K:List Nat):iG 4 K=(0,true)::(1,true)::(2,true)::(3,true)::K.map λv=>(v,true):=rfl
def zf(i:Nat):mP->Nat->Option Nat
 | [],_=>none
 | p::r,v=>if p.2&&p.1 == v then some i else zf (i+1) r v
theorem akn(ks:mP)(v:Nat):il ks v=zf 0 ks v:=by
 have key:∀(ks:mP) (i:Nat),zf i ks v=(ks.findIdx? (λp=>p.2&&p.1 == v)).map (· + i):=by
  intro ks
  induction ks with
  | nil=>intro i;rfl
  | cons p r a=>
   intro i;rw[List.findIdx?_cons];unfold zf;split
   .simp
   .rw[a,Option.map_map];congr 1;funext x;simp;omega
 rw[key];simp[il]
@[simp] theorem au6(v:Nat):il [] v=none:=rfl
@[simp] theorem au5(p:Nat×Bool)(r:mP)(v:Nat):il (p::r) v=if (p.2&&p.1 == v)=true then some 0 else zf 1 r v:=by rw[akn];rfl
@[simp] theorem au4(i v:Nat):zf i [] v=none:=rfl
@[simp] theorem au3(i:Nat)(p:Nat×Bool)(r:mP)(v:Nat):zf i (p::r) v=if (p.2&&p.1 == v)=true then some i else zf (i+1) r v:=rfl
@[simp] theorem aqf(env:Env)(H:U)(m:List Nat)(r:Bool)(ks:mP):NO env H m r ks = { env:=env.map λp=>(p.1,fL (il ks) H 40 p.2),H:=ks.map λp=>if p.2 then tS (il ks) H H[p.1]? else .dead,marks:=m.map λv=>(il ks v).getD v,ik:=r }:=rfl
@[simp] theorem auM(n:Nat)(env:Env)(H:U)(m:List Nat):QX n env H m=dedup (((env.map λp=>iT n p.2).flatten++((H.take n).map (nZ n)).flatten++m.filter (n<=·)).filter (· < H.length)):=rfl
@[simp] theorem aqh:dedup [] = []:=rfl
@[simp] theorem aqg(x:Nat)(r:List Nat):dedup (x::r)=if x∈r then dedup r else x::dedup r:=rfl
theorem M7(n:Nat){d:D}(h:closed d=true):iT n d = []:=by cases d<;>first|rfl|cases h
@[simp] theorem awm(n:Nat)(l:List Int):iT n (dI l) = []:=rfl
@[simp] theorem awr(n:Nat)(l:List Pos):iT n (gJ l) = []:=rfl
@[simp] theorem awp(n:Nat)(p:Pos):iT n (dP p) = []:=rfl
@[simp] theorem awq(n:Nat)(l:List fE):iT n (gY l) = []:=rfl
@[simp] theorem awl(n:Nat)(g:fH):iT n (dG g) = []:=rfl
@[simp] theorem awj(n:Nat)(g:fH):iT n g.jm = []:=rfl
@[simp] theorem awn{α:Type}(n sz:Nat)(f:α->List D)(l:List α):iT n (dN sz f l) = []:=by cases l<;>rfl
@[simp] theorem awD(n:Nat)(v:Value):iT n (.val v) = []:=rfl
@[simp] theorem awi(n:Nat):iT n .any = []:=rfl
@[simp] theorem awu(n:Nat):iT n .fJ = []:=rfl
@[simp] theorem awh(n:Nat)(cs:List D):iT n (.agg cs) = []:=rfl
@[simp] theorem awC(n:Nat)(cs:List D):iT n (.tup cs) = []:=rfl
@[simp] theorem aww(n:Nat)(cs:List D):iT n (.fV cs) = []:=rfl
@[simp] theorem awB(n sz:Nat)(es:List (List D)):iT n (.sl sz es) = []:=rfl
@[simp] theorem awv(n:Nat)(f:Fn)(a b:List D):iT n (.fn f a b) = []:=rfl
@[simp] theorem awz(n v g sz off len:Nat):iT n (.fy v g sz off len)=if n<=v then [v]else []:=rfl
@[simp] theorem awA(n v g off:Nat):iT n (.ptr v g off)=if n<=v then [v]else []:=rfl
@[simp] theorem awy(n v:Nat):iT n (.gg v)=if n<=v then [v]else []:=rfl
@[simp] theorem awE(n v:Nat):iT n (.iH v)=if n<=v then [v]else []:=rfl
theorem akf(n:Nat){cs:List D}(h:gh cs=true):(cs.map (iT n)).flatten = []:=by
 induction cs with
 | nil=>rfl
 | cons d r a=>
  simp only[gh,Bool.and_eq_true]at h;simp[M7 n h.1,a h.2]
@[simp] theorem apH(n:Nat){α:Type}{f:α->List D}{sz:Nat}[F:Fl f sz](l:List α):((cl f l).map (iT n)).flatten = []:=akf n (ue l)
@[simp] theorem atQ(n t g:Nat)(cs:List D):nZ n (.row t g cs)=(cs.map (iT n)).flatten:=rfl
@[simp] theorem atN(n:Nat)(kk:KK)(es:List (Value×D)):nZ n (.map kk es)=(es.map λx=>iT n x.2).flatten:=rfl
@[simp] theorem atL(n:Nat):nZ n .dead = []:=rfl
theorem Wy{H:U}{d:D}(h:H≠[]):leave 0 0 H d=(fL (λ_=>none) H 40 d,[]):=by unfold leave;rw[if_neg (by rintro(e|e);exact h (az.1 (by omega));cases e)];rfl
@[simp] theorem asn{o:Ob}{r:U}{d:D}:leave 0 0 (o::r) d=(fL (λ_=>none) (o::r) 40 d,[]):=Wy (by simp)
attribute [simp] and_assoc Kind.cells Clause.cells dP Pos.cells dG fH.cells fH.jm
def kj(T:ia)(n:Nat)(live:List Nat)(a:IR)(s:St)(K:iE)(_:Tag (live,a,s,K)):Prop:=Ev T (.loop n live (kO a) s) (PO K)
def Mc(T:ia)(n:Nat)(live:List Nat)(a:IR)(K:iE):iE:=λo=>match o with
 | .norm s=>kj T n live a (cut n live s) K .mk
 | o=>K o
def X5(T:ia)(v rf:Nat)(b:IR)(dst:Option Nat)(s:St)(K:St->Prop):iE:=λo=>match o with
 | .norm s1=>∃a,s1.H[v]? = some (.gV rf a .ready)/\XC T b { s1 with H:=s1.H.set v (.gV rf a .busy) } (Bg v rf dst s K)
 | _=>False
theorem rK.r{T:ia}{v rf:Nat}{args:List D}{dst:Option Nat}{s:St}{K:St->Prop}{env0:Env}{Rd:pJ}(e:s.H[v]? = some (.gV rf env0 .ready))(i:T.round rf=some Rd)(hl:args.length=Rd.params.length)
  (c b:IR) (g:kO c=Rd.a) (f:kO b=Rd.b)
  (h:XC T c { env:=tf Rd.params args env0,H:=s.H,ik:=true } (X5 T v rf b dst s K)):rK T v args dst s K .mk:=by
 refine⟨rf,env0,Rd,e,i,hl,?_⟩;rw[<-g];refine(XC.wc h).mono λo a=>?_
 cases o with
 | norm s1=>
  obtain⟨d,h1,j⟩:=a;exact⟨s1,d,rfl,h1,by rw[<-f];exact XC.wc j⟩
 | exit=>exact a.elim
 | ret=>exact a.elim
def akp(rf:Nat)(s:St)(K:iE):D->U->Prop:=λ_ H'=>∃env st,H'[s.H.length+1]? = some (.gV rf env st)/\oA (Be { s with H:=H'.set (s.H.length+1) .dead,marks:=s.H.length::s.marks } st) K .mk
theorem x4.r{T:ia}{rf:Nat}{live:List Nat}{x:X}{s:St}{K:iE}{f:FuncId}{first cap:List D}{fn:iP}(b:s.ik=false)(a:ev s.env.get x = .fn (.func f) first cap)(e:T.fn f=some fn)(c:fn.full=true)
  (h:Wf T f (first ++ [.iH (s.H.length+1)]++cap) (s.H ++ [.kD,.gV rf (forget live s.env) .ready]) (akp rf s K)):x4 T rf live x s K .mk:=
 Ev.nv b a e c h λd H' ⟨d',H2,g,env,st,h1,o,j,i⟩=>by cases g;exact⟨env,st,o,h1,j,o,rfl,i⟩
section
variable{T:ia}{n:Nat}{live:List Nat}{a:IR}{s:St}{K:iE}{id:Nat}
theorem fO.un(h:kj T s.H.length live a { s with env:=forget live s.env } K .mk):fO T live a s K .mk:=Ev.loop h
theorem kj.u(h:XC T a s (Mc T n live a K)):kj T n live a s K .mk:=by
 refine Ev.y5 (XC.wc h) (λb ⟨o,e,k⟩=>?_) λo ⟨o',e,k⟩ hs=>?_
 .cases e;exact k
 .cases e
  cases o with
  | norm=>cases hs
  | exit=>exact⟨_,rfl,k⟩
  | ret=>exact⟨_,rfl,k⟩
@[simp ↓] theorem asQ:Mc T n live a K (.norm s)=kj T n live a (cut n live s) K .mk:=(rfl)
@[simp ↓] theorem asP:Mc T n live a K (.exit id s)=K (.exit id s):=(rfl)
@[simp ↓] theorem asR:Mc T n live a K (.ret s)=K (.ret s):=(rfl)
end
theorem Xk{x b:Bool}{P Q:Prop}(k:cond b P Q)(h:x=b:=by first|(show _=true;first|assumption|exact decide_eq_true (by assumption))|(show _=false;first|assumption|exact decide_eq_false (by assumption))):X2 x P Q .mk:=by subst h;cases x<;>simpa using k
class PB (x:Bool) (I:outParam (Prop->Prop)) (q:outParam Prop):Prop where
 t:∀ {P:Prop},I P->x=true->P
 f:x=false->q
instance(priority:=low){x:Bool}:PB x (λP=>x=true->P) (x=false):=⟨λh e=>h e,id⟩
instance{p:Prop}[Decidable p]:PB (decide p) (λP=>p->P) (¬p):=⟨λh e=>h (of_decide_eq_true e),of_decide_eq_false⟩
instance{p q:Prop}[Decidable p][Decidable q]:PB (decide p&&decide q) (λP=>p->q->P) (¬(p/\q)):=⟨λh e=>by
 rw[<-du]at e
 exact h (of_decide_eq_true e).1 (of_decide_eq_true e).2,λe=>by rw[<-du]at e;exact of_decide_eq_false e⟩
instance{p q:Prop}[Decidable p][Decidable q]:PB (decide p||decide q) (λP=>p\/q->P) (¬(p\/q)):=⟨λh e=>by
 rw[<-fh]at e
 exact h (of_decide_eq_true e),λe=>by rw[<-fh]at e;exact of_decide_eq_false e⟩
theorem Xs{x:Bool}{I:Prop->Prop}{q P Q:Prop}[c:PB x I q](h:I P)(k:q->Q):X2 x P Q .mk:=⟨c.t h,λe=>k (c.f e)⟩
theorem Yc{T:ia}{f:FuncId}{args:List D}{dst:Option Nat}{s:St}{K:St->Prop}{fn:iP}{x:D}(h:Wf T f args [] λd H'=>d=x/\H' = [])(k:K { s with env:=put s.env dst x })
  (c:T.fn f=some fn:=by exact rfl) (b:fn.full=false:=by exact rfl) (e:gh args=true:=by simp) (a:closed x=true:=by simp):fY T f args dst s K .mk:=fY.c c b h e a k
theorem Yt{T:ia}{f:FuncId}{args:List D}{R:List Fp}{dst:Option Nat}{s:St}{Q:Rc->St->Prop}{fn:iP}{x:D}(h:Wf T f args [] λd H'=>d=x/\H' = [])(k:Q ⟨R,[]⟩ { s with env:=put s.env dst x })
  (c:T.fn f=some fn:=by exact rfl) (b:fn.full=false:=by exact rfl) (e:gh args=true:=by simp) (a:closed x=true:=by simp):iF T f args R dst s Q .mk:=iF.c c b h e a k
theorem Yr{T:ia}{f:FuncId}{args nN:List D}{dst:Option Nat}{s:St}{K:St->Prop}{fn:iP}{x:D}(h:Wf T f nN [] λd H'=>d=x/\H' = [])(k:K { s with env:=put s.env dst x })
  (e:T.fn f=some fn:=by exact rfl) (c:fn.full=false:=by exact rfl) (hs:args.map (fL (λ_=>none) s.H 40)=nN:=by simp) (b:flat x=true:=by simp[flat]) (a:closed x=true:=by simp):fY T f args dst s K .mk:=fY.r e c h hs b a k
theorem Yg{T:ia}{f:FuncId}{args:List D}{H:U}(fn:iP){K:D->U->Prop}(h:XC T fn.body { env:=s7 args,H:=H } (yu fn.results fn.own H.length K))
  (b:T.fn f=some fn:=by exact rfl) (hl:args.length<=fn.ntmps:=by exact cN rfl) (a:s9 fn.body=true:=by exact rfl):Wf T f args H K:=Wf.x b hl h a
theorem Yz{T:ia}{f:FuncId}{args:List D}{H:U}(fn:iP)(c:IR){K:D->U->Prop}(h:XC T c { env:=s7 args,H:=H } (yu fn.results fn.own H.length K))
  (a:T.fn f=some fn:=by exact rfl) (hl:args.length<=fn.ntmps:=by exact cN rfl) (b:kO c=fn.body:=by simp only[zn,zo];exact oP rfl):Wf T f args H K:=Wf.xz fn.own c a hl b h
structure Bx(p:Prop):Prop where
 x:p
theorem mE{P:Prop}(h:P:=by(with_reducible repeat' first|refine Xk ?_<;>try simp|refine Xs ?_ ?_<;>intro h<;>(try intro a)<;>(try simp[h])<;>try omega|refine Xg ?_|omega)):P:=h
theorem fD{P Q:Prop}(k:Q)(h:Bx Q->P:=by intro k;(with_reducible repeat' first|refine Xk ?_<;>try simp|refine Xs ?_ ?_<;>intro h<;>(try intro a)<;>(try simp[h])<;>try omega|refine Xg ?_|omega);exact k.x):P:=h ⟨k⟩
theorem jF{P Q R:Prop}(k:Q)(l:R)(h:Bx Q->Bx R->P:=by intro k l;(with_reducible repeat' first|refine Xk ?_<;>try simp|refine Xs ?_ ?_<;>intro h<;>(try intro a)<;>(try simp[h])<;>try omega|refine Xg ?_|omega);(revert h;exact k.x);(revert h;exact l.x)):P:=h ⟨k⟩ ⟨l⟩
theorem jw{A P Q:Prop}(a:A)(k:Q)(h:A->Bx Q->P:=by intro a k;(with_reducible repeat' first|refine Xk ?_<;>try simp[a]|refine Xs ?_ ?_<;>intro h<;>(try intro b)<;>(try simp[h,a])<;>try omega|refine Xg ?_|omega);exact k.x):P:=h a ⟨k⟩
theorem J7{A P Q R:Prop}(a:A)(k:Q)(l:R)(h:A->Bx Q->Bx R->P:=by intro a k l;(with_reducible repeat' first|refine Xk ?_<;>try simp[a]|refine Xs ?_ ?_<;>intro h<;>(try intro b)<;>(try simp[h,a])<;>try omega|refine Xg ?_|omega);(revert h;exact k.x);(revert h;exact l.x)):P:=h a ⟨k⟩ ⟨l⟩
theorem ku{A B P Q:Prop}(b:A)(a:B)(k:Q)(h:A->B->Bx Q->P:=by intro b a k;(with_reducible repeat' first|refine Xk ?_<;>try simp[b,a]|refine Xs ?_ ?_<;>intro h<;>(try intro c)<;>(try simp[h,b,a])<;>try omega|refine Xg ?_|omega);exact k.x):P:=h b a ⟨k⟩
theorem Za{A B C P:Prop}(c:A)(b:B)(a:C)(h:A->B->C->P:=by intro c b a;(with_reducible repeat' first|refine Xk ?_<;>try simp[c,b,a]|refine Xs ?_ ?_<;>intro h<;>(try intro d)<;>(try simp[h,c,b,a])<;>try omega|refine Xg ?_|omega)):P:=h c b a
theorem pe{A B C P Q:Prop}(c:A)(b:B)(a:C)(k:Q)(h:A->B->C->Bx Q->P:=by intro c b a k;(with_reducible repeat' first|refine Xk ?_<;>try simp[c,b,a]|refine Xs ?_ ?_<;>intro h<;>(try intro d)<;>(try simp[h,c,b,a])<;>try omega|refine Xg ?_|omega);exact k.x):P:=h c b a ⟨k⟩
theorem Zc{A B C P Q R:Prop}(c:A)(b:B)(a:C)(k:Q)(l:R)(h:A->B->C->Bx Q->Bx R->P:=by intro c b a k l;(with_reducible repeat' first|refine Xk ?_<;>try simp[c,b,a]|refine Xs ?_ ?_<;>intro h<;>(try intro d)<;>(try simp[h,c,b,a])<;>try omega|refine Xg ?_|omega);(revert h;exact k.x);(revert h;exact l.x)):P:=h c b a ⟨k⟩ ⟨l⟩
theorem zC{A B C D P Q:Prop}(d:A)(c:B)(b:C)(a:D)(k:Q)(h:A->B->C->D->Bx Q->P:=by intro d c b a k;(with_reducible repeat' first|refine Xk ?_<;>try simp[d,c,b,a]|refine Xs ?_ ?_<;>intro h<;>(try intro e)<;>(try simp[h,d,c,b,a])<;>try omega|refine Xg ?_|omega);exact k.x):P:=h d c b a ⟨k⟩
