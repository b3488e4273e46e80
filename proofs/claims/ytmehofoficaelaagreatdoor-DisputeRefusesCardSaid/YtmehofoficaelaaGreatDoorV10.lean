/- 10 -/
import Derived.Test.YtmehofoficaelaaGreatDoorV09
set_option linter.all false
open Option renaming some→aE,none→di,bind_some→en
open List renaming getElem?_eq_getElem→bb,getD_eq_getElem?_getD→bs,length_map→ep,replicate→er,map_cons→ez,length→List.l
open Go renaming FuncId→b4,IntKind→cc,TypeId→dr,Value→ek
open Bool renaming true→cp,false→dx
open Nat renaming le_refl→eh,beq→eB
open Int renaming toNat→Int.n
namespace Go.AL
open Go
universe u
inductive Tag{α:Sort u}(a:α):Type
 | mk
def oA{α:Type}(x:Option α)(P:α->Prop)(_:Tag P):Prop:=∃a,x=aE a/\P a
@[simp] theorem Ay{α:Type}(a:α)(P:α->Prop):oA (aE a) P .mk=P a:=by simp[oA]
@[simp] theorem ZX{α:Type}(P:α->Prop):oA di P .mk=False:=by simp[oA]
@[simp high] theorem Cn{α:Type}{c:Prop}[Decidable c](x:Option α)(P:α->Prop):oA (if c then x else di) P .mk=(c/\oA x P .mk):=by by_cases h:c<;>simp[h]
@[simp] theorem awF{α:Type}{c:Prop}[Decidable c](x y:Option α)(P:α->Prop):oA (if c then x else y) P .mk=((c->oA x P .mk)/\(¬c->oA y P .mk)):=by by_cases h:c<;>simp[h]
@[simp] theorem awG(x:Option D)(P:D×Dl->Prop):oA (lift x) P .mk=oA x (λd=>P (d,.no)) .mk:=by cases x<;>simp[lift]
@[simp] theorem awt{α b:Type}(x:Option α)(f:α->Option b)(P:b->Prop):oA (x.bind f) P .mk=oA x (λa=>oA (f a) P .mk) .mk:=by cases x<;>simp
def gB:D->Bool->Option Bool
 | .val (.bool b),want=>aE (b == want)
 | .val (.tuple _),_=>aE dx
 | _,_=>di
@[simp] theorem at4(a:Bool):gB (.val undef) a=aE false:=rfl
@[simp] theorem at3(x:Bool):gB (.b x) cp=aE x:=by cases x<;>rfl
@[simp] theorem at2(x:Bool):gB (.b x) dx=aE (!x):=by cases x<;>rfl
@[simp] theorem aui(f:gZ):guardOf f di=aE true:=rfl
@[simp] theorem auj(f:gZ)(j:Nat)(w:Bool):guardOf f (aE (j,w))=gB (f j) w:=by show(match f j with | .val (.bool b)=>aE (b == w) | .val (.tuple _)=>aE dx|_=>di)=gB (f j) w;unfold gB;split<;>simp_all
@[simp] theorem att(f:gZ)(k:Nat):ev f (.t k)=f k:=rfl
@[simp] theorem ats(f:gZ)(d:D):ev f (.c d)=d:=rfl
@[simp] theorem axE(env:Env)(k:Nat)(d:D):put env (aE k) d=(k,d)::env:=rfl
@[simp] theorem axD(env:Env)(d:D):put env di d=env:=rfl
@[simp] theorem aq9(H:gd)(al:Al):Dl.no.app H al=H:=rfl
@[simp] theorem aq8(H:gd)(al:Al)(ob:Ob):(Dl.new ob).app H al=al.2 ob:=rfl
@[simp] theorem ara(H:gd)(al:Al)(v:Nat)(ob:Ob):(Dl.obj v ob).app H al=H.set v ob:=rfl
def setCells(H:gd)(v o:Nat)(xs:List D):Option Ob->gd
 | some (.row t g cs)=>H.set v (.row t g (cs.take o++xs++cs.drop (o+xs.l)))
 | _=>H
@[simp] theorem aq5(H:gd)(al:Al)(v o:Nat)(xs:List D):(Dl.cells v o xs).app H al=setCells H v o xs H[v]? := by show(match H[v]? with|some (.row t g cs)=>H.set v (.row t g (cs.take o++xs++cs.drop (o+xs.l)))|_=>H)=_;unfold setCells;split<;>simp_all
@[simp] theorem aya(H:gd)(v o:Nat)(xs:List D)(t g:Nat)(cs:List D):setCells H v o xs (aE (.row t g cs))=H.set v (.row t g (cs.take o++xs++cs.drop (o+xs.l))):=rfl
def yW(k:cc)(a b:Int):Int:=k.wrap (a*2 ^ (min b.n k.bits))
def mG(k:cc)(a b:Int):Int:=a.fdiv (2 ^ (min b.n k.bits))
section
variable{k:cc}{a b:Int}
@[simp] theorem arv:lk .add (.val (.int k a)) (.val (.int k b))=kc .add k a b:=by simp[lk,pY]
@[simp] theorem arL:lk .sub (.val (.int k a)) (.val (.int k b))=kc .sub k a b:=by simp[lk,pY]
@[simp] theorem arD:lk .mul (.val (.int k a)) (.val (.int k b))=kc .mul k a b:=by simp[lk,pY]
@[simp] theorem arG:lk .quo (.val (.int k a)) (.val (.int k b))=kc .quo k a b:=by simp[lk,pY]
@[simp] theorem arH:lk .rem (.val (.int k a)) (.val (.int k b))=kc .rem k a b:=by simp[lk,pY]
@[simp] theorem arw:lk .and (.val (.int k a)) (.val (.int k b))=aE (.val (.int k (bits .and k a b))):=by simp[lk,pY,kc]
@[simp] theorem arF:lk .or (.val (.int k a)) (.val (.int k b))=aE (.val (.int k (bits .or k a b))):=by simp[lk,pY,kc]
@[simp] theorem arM:lk .xor (.val (.int k a)) (.val (.int k b))=aE (.val (.int k (bits .xor k a b))):=by simp[lk,pY,kc]
@[simp] theorem arx:lk .andNot (.val (.int k a)) (.val (.int k b))=aE (.val (.int k (bits .andNot k a b))):=by simp[lk,pY,kc]
@[simp] theorem ary:lk .eql (.val (.int k a)) (.val (.int k b))=aE (.b (decide (a=b))):=by simp[lk,pY,kc,BEq.beq]
@[simp] theorem arE:lk .neq (.val (.int k a)) (.val (.int k b))=aE (.b (!decide (a=b))):=by simp[lk,pY,kc,bne,BEq.beq]
@[simp] theorem arC:lk .lss (.val (.int k a)) (.val (.int k b))=aE (.b (decide (a<b))):=by simp[lk,pY,kc]
@[simp] theorem arB:lk .leq (.val (.int k a)) (.val (.int k b))=aE (.b (decide (a<=b))):=by simp[lk,pY,kc]
@[simp] theorem arA:lk .gtr (.val (.int k a)) (.val (.int k b))=aE (.b (decide (a>b))):=by simp[lk,pY,kc]
@[simp] theorem arz:lk .geq (.val (.int k a)) (.val (.int k b))=aE (.b (decide (a>=b))):=by simp[lk,pY,kc]
@[simp] theorem arI{k2:cc}:lk .shl (.val (.int k a)) (.val (.int k2 b))=if 0<=b then aE (.val (.int k (yW k a b)))else none:=rfl
@[simp] theorem arJ{k2:cc}:lk .shr (.val (.int k a)) (.val (.int k2 b))=if 0<=b then aE (.val (.int k (mG k a b)))else none:=rfl
@[simp] theorem arK(op:BinOp)(s t:ByteArray):lk op (.val (.string s)) (.val (.string t))=Fh op s t:=rfl
@[simp] theorem azF(x:Bool):Fk .not (.b x)=aE (.b !x):=rfl
@[simp] theorem azE(n:Int):Fk .neg (.i n)=if nX (-n)then aE (.i (-n))else none:=rfl
@[simp] theorem atg(b:cc):MO b (.val (.int k a))=aE (.val (.int b (b.wrap a))):=rfl
end
@[simp] theorem atz(off v g o:Nat):GG off (.ptr v g o)=aE (.ptr v g (o+off)):=rfl
@[simp] theorem aty(off:Nat)(cs:List D):GG off (.gC cs)=aE (.gC (cs.drop off)):=rfl
@[simp] theorem atA(off n:Nat)(cs:List D):Bq off n cp (.agg cs)=if off+n<=cs.l then aE (.agg ((cs.drop off).take n))else none:=rfl
@[simp] theorem atB(off n:Nat)(cs:List D):Bq off n dx (.agg cs)=cs[off]? := rfl
@[simp] theorem atu(ds:List D)(i:Nat):M8 (.tup ds) i=ds[i]? := rfl
@[simp] theorem awb(v g o:Nat):Cl (.ptr v g o)=aE (.ptr v g o):=rfl
@[simp] theorem awa(cs:List D):Cl (.gC cs)=aE (.gC cs):=rfl
@[simp] theorem av9(f:b4)(a b:List D):Cl (.fn (.func f) a b)=aE (.fn (.func f) a b):=rfl
@[simp] theorem awc(v:Nat):Cl (.iQ v)=aE (.iQ v):=rfl
def rowOf(k:Nat):Option Ob->Option (dr×List D)
 | some (.row t g cs)=>if g=k then aE (t,cs)else di
 | _=>di
@[simp] theorem anp(H:gd)(v k:Nat):rowAt H v k=rowOf k H[v]? := by unfold rowAt rowOf;split<;>simp_all
@[simp] theorem ax9(k:Nat)(t:dr)(g:Nat)(cs:List D):rowOf k (aE (.row t g cs))=if g=k then aE (t,cs)else none:=rfl
@[simp] theorem ave(v g o:Nat)(H:gd):xu (.ptr v g o) H=(rowAt H v g).bind λp=>p.2[o]? := by show(match rowAt H v g with|some (_,cs)=>cs[o]? | none=>di)=_;cases rowAt H v g<;>rfl
@[simp] theorem avd(cs:List D)(H:gd):xu (.gC cs) H=cs[0]? := rfl
def uX(n o:Nat):Option (dr×List D)->Option D
 | some p=>if o+n<=p.2.l then aE (.agg ((p.2.drop o).take n))else di
 | none=>di
@[simp] theorem avl(n o:Nat):uX n o di=none:=rfl
@[simp low] theorem avm(n o:Nat)(p:dr×List D):uX n o (aE p)=if o+n<=p.2.l then aE (.agg ((p.2.drop o).take n))else none:=rfl
@[simp] theorem avg(n v g o:Nat)(H:gd):wi n (.ptr v g o) H=uX n o (rowAt H v g):=by show(match rowAt H v g with|some (_,cs)=>if o+n<=cs.l then aE (D.agg ((cs.drop o).take n))else di|none=>di)=_;cases rowAt H v g<;>rfl
@[simp] theorem avf(n:Nat)(cs:List D)(H:gd):wi n (.gC cs) H=if n<=cs.l then aE (.agg (cs.take n))else none:=rfl
@[simp] theorem ay8(v g o:Nat)(x:D)(H:gd):CN (.ptr v g o) x H=(rowAt H v g).bind λp=>if o<p.2.l/\one x=cp then aE (.any,.cells v o [x])else none:=by show(match rowAt H v g with|some (_,cs)=>if o<cs.l/\one x=cp then aE (D.any,Dl.cells v o [x])else di|none=>di)=_;cases rowAt H v g<;>rfl
@[simp] theorem ay9(n v g o:Nat)(xs:List D)(H:gd):CQ n (.ptr v g o) (.agg xs) H=(rowAt H v g).bind λp=>if xs.l=n/\o+n<=p.2.l then aE (.any,.cells v o xs)else none:=by show(match rowAt H v g with|some (_,cs)=>if xs.l=n/\o+n<=cs.l then aE (D.any,Dl.cells v o xs)else di|none=>di)=_;cases rowAt H v g<;>rfl
@[simp] theorem arS(t:dr)(cs:List D)(n:Nat):sY t (.agg cs) n=aE (.ptr n 0 0,.new (.row t 0 cs)):=rfl
@[simp] theorem asa(cs:List D):cellsOf (.agg cs)=aE cs:=rfl
@[simp] theorem asn(k:cc)(n:Int):cellsOf (.val (.int k n))=aE [.val (.int k n)]:=rfl
@[simp] theorem asb(b:Bool):cellsOf (.b b)=aE [.b b]:=rfl
@[simp] theorem ass(b:ByteArray):cellsOf (.val (.string b))=aE [.val (.string b)]:=rfl
@[simp] theorem asr(sz:Nat)(es:List (List D)):cellsOf (.sl sz es)=aE [.sl sz es]:=rfl
@[simp] theorem asd(l:List Int):cellsOf (dI l)=aE [dI l]:=rfl
@[simp] theorem asg(l:List Pos):cellsOf (gP l)=aE [gP l]:=rfl
@[simp] theorem asf(l:List gg):cellsOf (iw l)=aE [iw l]:=rfl
@[simp] theorem ase{α:Type}(sz:Nat)(f:α->List D)(l:List α):cellsOf (dN sz f l)=aE [dN sz f l]:=by cases l<;>rfl
@[simp] theorem asj:cellsOf .gi=aE [.gi]:=rfl
@[simp] theorem asp(v g sz off n:Nat):cellsOf (.gf v g sz off n)=aE [.gf v g sz off n]:=rfl
@[simp] theorem asq(v g o:Nat):cellsOf (.ptr v g o)=aE [.ptr v g o]:=rfl
@[simp] theorem asm(cs:List D):cellsOf (.gC cs)=aE [.gC cs]:=rfl
@[simp] theorem aso(v:Nat):cellsOf (.gH v)=aE [.gH v]:=rfl
@[simp] theorem asl(f:Fn)(a b:List D):cellsOf (.fn f a b)=aE [.fn f a b]:=rfl
@[simp] theorem axh(k:cc)(n:Int):one (.val (.int k n))=true:=rfl
@[simp] theorem aw8(b:Bool):one (.b b)=true:=rfl
@[simp] theorem axm(b:ByteArray):one (.val (.string b))=true:=rfl
@[simp] theorem axl(sz:Nat)(es:List (List D)):one (.sl sz es)=true:=rfl
@[simp] theorem axa(l:List Int):one (dI l)=true:=rfl
@[simp] theorem axc(l:List Pos):one (gP l)=true:=rfl
@[simp] theorem axb(l:List gg):one (iw l)=true:=rfl
@[simp] theorem axe:one .gi=true:=rfl
@[simp] theorem axj(v g sz off n:Nat):one (.gf v g sz off n)=true:=rfl
@[simp] theorem axk(v g o:Nat):one (.ptr v g o)=true:=rfl
@[simp] theorem axg(cs:List D):one (.gC cs)=true:=rfl
@[simp] theorem axi(v:Nat):one (.gH v)=true:=rfl
@[simp] theorem axf(f:Fn)(a b:List D):one (.fn f a b)=true:=rfl
@[simp] theorem ar2(f:gZ)(z:List D)(ps:List (Nat×Nat×X)):Dt f z ps=(partsOf f ps).bind λl=>(lay l z).bind λcs=>aE (D.agg cs):=by
 unfold Dt;cases partsOf f ps with
 | none=>rfl
 | some l=>simp only[en];cases lay l z<;>rfl
@[simp] theorem ar1(f:gZ)(t sz:Nat)(z:List D)(m:Nat)(ps:List (Nat×X))(n:Nat):zr f t sz z m ps n=(partsOf f (ps.map λp=>(p.1*sz,sz,p.2))).bind λl=>(lay l (er m z).flatten).bind λcs=>aE (.gf n 0 sz 0 m,.new (.row t 0 cs)):=by
 unfold zr;cases partsOf f (ps.map λp=>(p.1*sz,sz,p.2))with
 | none=>rfl
 | some l=>simp only[en];cases lay l (er m z).flatten<;>rfl
@[simp] theorem axv(f:gZ):partsOf f []=aE []:=rfl
@[simp] theorem axu(f:gZ)(o n:Nat)(x:X)(r:List (Nat×Nat×X)):partsOf f ((o,n,x)::r)=(cellsOf (ev f x)).bind λcs=>(partsOf f r).bind λl=>aE ((o,n,cs)::l):=by show(match cellsOf (ev f x),partsOf f r with|some cs,aE l=>aE ((o,n,cs)::l)|_,_=>di)=_;cases cellsOf (ev f x)<;>cases partsOf f r<;>rfl
@[simp] theorem agE(vs:List ek)(k:cc)(n:Int):mC 1 (.kW vs) (.val (.int k n))=if 0<=n/\n<vs.l then aE (.gC [.val (vs.getD n.n undef)])else none:=by simp[mC]
@[simp] theorem avu(vs:List ek)(H:gd):mY .slice (.kW vs) H=aE (.i vs.l):=rfl
@[simp] theorem auw(sz v g off len:Nat)(k:cc)(n:Int):mC sz (.gf v g sz off len) (.val (.int k n))=if 0<=n/\n<len then aE (.ptr v g ((off+n.n)*sz))else none:=by simp[mC]
@[simp] theorem auz(sz n v g o:Nat)(k:cc)(i:Int):H9 sz n (.ptr v g o) (.val (.int k i))=if 0<=i/\i<n then aE (.ptr v g (o+i.n*sz))else none:=rfl
@[simp] theorem auy(sz n:Nat)(cs:List D)(k:cc)(i:Int):H9 sz n (.gC cs) (.val (.int k i))=if 0<=i/\i<n then aE (.gC (cs.drop (i.n*sz)))else none:=rfl
@[simp] theorem auA(sz n:Nat)(b:Bool)(cs:List D)(k:cc)(i:Int):N7 sz n b (.agg cs) (.val (.int k i))=if 0<=i/\i<n then Bq (i.n*sz) sz b (.agg cs)else none:=rfl
@[simp] theorem arR(f:gZ)(n:Int):iq f di n=aE n:=rfl
def tY:D->Option Int
 | .val (.int _ n)=>aE n
 | _=>di
@[simp] theorem auC(k:cc)(n:Int):tY (.val (.int k n))=aE n:=rfl
@[simp] theorem U0(f:gZ)(x:X)(n:Int):iq f (aE x) n=tY (ev f x):=by show(match ev f x with | .val (.int _ n)=>aE n|_=>di)=_;unfold tY;split<;>simp_all
@[simp] theorem TO(f:gZ)(sz:Nat)(es:List (List D))(lo hi:Option X):uu f sz (.sl sz es) lo hi=(iq f lo 0).bind λl=>(iq f hi es.l).bind λh=>if 0<=l/\l<=h/\h<=es.l then aE (.sl sz ((es.drop l.n).take (h.n-l.n)))else none:=by simp only[uu];cases iq f lo 0<;>cases iq f hi es.l<;>simp
@[simp] theorem ayZ(f:gZ)(sz v g off len:Nat)(lo hi:Option X):uu f sz (.gf v g sz off len) lo hi=(iq f lo 0).bind λl=>(iq f hi len).bind λh=>if 0<=l/\l<=h/\h<=len then aE (.gf v g sz (off+l.n) (h.n-l.n))else none:=by simp only[uu];cases iq f lo 0<;>cases iq f hi len<;>simp
@[simp] theorem ayY(f:gZ)(sz:Nat)(lo hi:Option X):uu f sz .gi lo hi=(iq f lo 0).bind λl=>(iq f hi 0).bind λh=>if l=0/\h=0 then aE .gi else none:=by simp only[uu];cases iq f lo 0<;>cases iq f hi 0<;>simp
@[simp] theorem anT(f:gZ)(sz:Nat)(es:List (List D))(lo:Option X)(hi mx:X):yX f sz (.sl sz es) lo hi mx=(iq f lo 0).bind λl=>(tY (ev f hi)).bind λh=>(tY (ev f mx)).bind λm=>if 0<=l/\l<=h/\h=m/\m<=es.l then aE (clip sz ((es.drop l.n).take (h.n-l.n)))else none:=by simp only[yX,U0];cases iq f lo 0<;>cases tY (ev f hi)<;>cases tY (ev f mx)<;>simp
@[simp] theorem ayT(f:gZ)(sz:Nat)(lo:Option X)(hi mx:X):yX f sz .gi lo hi mx=(iq f lo 0).bind λl=>(tY (ev f hi)).bind λh=>(tY (ev f mx)).bind λm=>if l=0/\h=0/\m=0 then aE .gi else none:=by simp only[yX,U0];cases iq f lo 0<;>cases tY (ev f hi)<;>cases tY (ev f mx)<;>simp
@[simp] theorem ayU(f:gZ)(sz n v g o:Nat)(lo hi:Option X)(H:gd):AP f sz n (.ptr v g o) lo hi H=(iq f lo 0).bind λl=>(iq f hi n).bind λh=>(rowAt H v g).bind λp=>if o % sz=0/\o+n*sz<=p.2.l/\n<=16777216/\0<=l/\l<=h/\h<=n then aE (.gf v g sz (o / sz+l.n) (h.n-l.n))else none:=by
 simp only[AP]
 cases iq f lo 0 with
 | none=>rfl
 | some l=>cases iq f hi n with
  | none=>rfl
  | some h=>dsimp only;cases rowAt H v g<;>rfl
def Pc{α:Type}(f:α->List D)(l:List α)(a b:Nat):((l.map f).drop a).take b=((l.drop a).take b).map f:=by rw[List.map_take,List.map_drop]
@[simp] theorem ayW(f:gZ)(l:List Pos)(lo hi:Option X):uu f 5 (gP l) lo hi=(iq f lo 0).bind λa=>(iq f hi l.l).bind λh=>if 0<=a/\a<=h/\h<=l.l then aE (gP ((l.drop a.n).take (h.n-a.n)))else none:=by unfold gP;rw[TO,ep];simp only[Pc]
@[irreducible] def cl{α:Type}(f:α->List D)(l:List α):List D:=(l.map f).flatten
theorem oV{α:Type}(f:α->List D)(l:List α):cl f l=(l.map f).flatten:=by rw[cl]
@[simp] theorem anX(sz:Nat)(H:gd)(es:List (List D)):lu sz H (.sl sz es)=aE (es.flatten,es.l):=by simp[lu]
@[simp] theorem I7{α:Type}(sz:Nat)(f:α->List D)(H:gd)(l:List α):lu sz H (.sl sz (l.map f))=aE (cl f l,l.l):=by rw[anX,ep,oV]
@[simp] theorem ay0(H:gd)(l:List Int):lu 1 H (dI l)=aE (cl f1 l,l.l):=by unfold dI;exact I7 ..
@[simp] theorem ay3(H:gd)(l:List Pos):lu 5 H (gP l)=aE (cl Pos.cells l,l.l):=by unfold gP;exact I7 ..
@[simp] theorem ay1{α:Type}(sz:Nat)(f:α->List D)(H:gd)(l:List α):lu sz H (dN sz f l)=aE (cl f l,l.l):=by
 cases l with
 | nil=>show aE ([],0)=_;rw[oV];rfl
 | cons a l=>exact I7 sz f H (a::l)
@[simp] theorem ay5(sz:Nat)(H:gd):lu sz H .gi=aE ([],0):=rfl
@[simp] theorem ay7(sz:Nat)(H:gd)(v g off len:Nat):lu sz H (.gf v g sz off len)=(rowAt H v g).bind λp=>if (off+len)*sz<=p.2.l then aE ((p.2.drop (off*sz)).take (len*sz),len)else none:=by simp only[lu];cases rowAt H v g<;>simp
@[simp] theorem arb(t sz bytes v g len:Nat)(y:D)(H:gd)(a:Nat):sX t sz bytes (.gf v g sz 0 len) y H a=(lu sz H y).bind λq=>(rowAt H v g).bind λr=>if r.1=t/\len*sz<=r.2.l/\(len+q.2)*bytes<=140737488355328/\len+q.2<=9223372036854775807 then aE (.gf v (g+1) sz 0 (len+q.2),.obj v (.row t (g+1) (r.2.take (len*sz)++q.1)))else none:=by
 simp only[sX]
 cases lu sz H y with
 | none=>rfl
 | some q=>cases rowAt H v g<;>simp
@[simp] theorem abX(t bytes:Nat)(vs:List ek)(y:D)(H:gd)(a:Nat):sX t 1 bytes (.kW vs) y H a=(lu 1 H y).bind λq=>if q.2≠0/\(vs.l+q.2)*bytes<=140737488355328/\vs.l+q.2<=9223372036854775807 then aE (.gf a 0 1 0 (vs.l+q.2),.new (.row t 0 (vs.map .val++q.1)))else none:=by simp only[sX];cases lu 1 H y<;>simp
@[simp] theorem aq6(t sz bytes:Nat)(y:D)(H:gd)(a:Nat):sX t sz bytes .gi y H a=(lu sz H y).bind λq=>if q.2=0 then aE (.gi,.no)else if q.2*bytes<=140737488355328/\q.2<=9223372036854775807 then aE (.gf a 0 sz 0 q.2,.new (.row t 0 q.1))else none:=by simp only[sX];cases lu sz H y<;>rfl
@[simp] theorem av5(t sz bytes:Nat)(z:List D)(k a:cc)(n m:Int)(v:Nat):ER t sz bytes z (.val (.int k n)) (.val (.int a m)) v=if 0<=n/\n<=m/\rr m 9223372036854775807/\rr ((bytes:Int)*m) 281474976710656 then aE (.gf v 0 sz 0 n.n,.new (.row t 0 (er m.n z).flatten))else none:=rfl
@[simp] theorem avo(n:Int)(k:Nat):rr n k=(n<=(k:Int)):=rfl
@[simp] theorem auE(f:gZ):r8 f []=aE []:=rfl
def Sl:D->Option Int
 | .val (.int .i64 n)=>aE n
 | _=>di
@[simp] theorem auv(n:Int):Sl (.i n)=aE n:=rfl
@[simp] theorem auD(f:gZ)(x:X)(r:List X):r8 f (x::r)=(Sl (ev f x)).bind λn=>(r8 f r).bind λl=>aE (n::l):=by
 show(match ev f x,r8 f r with | .val (.int .i64 n),aE l=>aE (n::l)|_,_=>di)=_;unfold Sl;split
 .rename_i h1 b;rw[h1,b];rfl
 .rename_i h;split
  .rename_i n a
   cases hl:r8 f r with
   | none=>rfl
   | some l=>exact absurd hl (h _ _ a)
  .rfl
def SZ(d:Bool):List Int->Option D
 | [a,b]=>aE (.i (if d then max a b else min a b))
 | [a,b,c]=>aE (.i (if d then max (max a b) c else min (min a b) c))
 | _=>di
@[simp] theorem mm2(m:Bool)(a b:Int):SZ m [a,b]=aE (.i (if m then max a b else min a b)):=rfl
@[simp] theorem av4(f:gZ)(m:Bool)(xs:List X):EP f m xs=(r8 f xs).bind (SZ m):=by
 unfold EP
 cases r8 f xs with
 | none=>rfl
 | some l=>simp only[en];unfold SZ;split<;>simp_all
@[simp] theorem ar4(f:gZ)(g:b4)(args:List X):kC f (.call g args)=aE (g,args.map (ev f)):=rfl
def Mv(args:List D):D->Option (b4×List D)
 | .fn (.func k) first cap=>aE (k,first++args++cap)
 | _=>di
@[simp] theorem ar3(args:List D)(k:b4)(first cap:List D):Mv args (.fn (.func k) first cap)=aE (k,first++args++cap):=rfl
@[simp] theorem acm(f:gZ)(g:X)(args:List X):kC f (.callv g args)=Mv (args.map (ev f)) (ev f g):=by show(match ev f g with | .fn (.func k) first cap=>aE (k,first++args.map (ev f)++cap)|_=>di)=_;unfold Mv;split<;>simp_all
def SC(z:D)(ok:Bool):Option D->D
 | some d=>if ok then .tup [d,.b cp]else d
 | none=>if ok then .tup [z,.b dx]else z
@[simp] theorem avO(z:D)(ok:Bool)(d:D):SC z ok (aE d)=if ok then .tup [d,.b cp]else d:=rfl
@[simp] theorem avN(z:D)(ok:Bool):SC z ok di=if ok then .tup [z,.b dx]else z:=rfl
@[simp] theorem avP(kk:KK)(z:D)(ok:Bool)(v:Nat)(k:D)(H:gd):Cf kk z ok (.gH v) k H=(keyOf k).bind λkv=>(lW H v).bind λp=>if p.1=kk/\p.1.has kv=cp then aE (SC z ok (rz p.2 kv))else none:=by
 unfold Cf
 cases keyOf k with
 | none=>rfl
 | some kv=>
  cases h:lW H v with
  | none=>simp[h]
  | some p=>
   simp only[h,en];split
   .cases rz p.2 kv<;>rfl
   .rfl
@[simp] theorem av1(kk:KK)(v:Nat)(k x:D)(H:gd):As kk (.gH v) k x H=(keyOf k).bind λkv=>(lW H v).bind λp=>if p.1=kk/\p.1.has kv=cp then aE (.any,.obj v (.map p.1 (mE p.2 kv x)))else none:=by
 unfold As
 cases keyOf k with
 | none=>rfl
 | some kv=>cases h:lW H v<;>simp[h]
def mapOf:Option Ob->Option (KK×List (ek×D))
 | some (.map kk es)=>aE (kk,es)
 | _=>di
@[simp] theorem av0(kk:KK)(es:List (ek×D)):mapOf (aE (.map kk es))=aE (kk,es):=rfl
@[simp] theorem SJ(H:gd)(v:Nat):lW H v=mapOf H[v]? := by unfold lW mapOf;split<;>simp_all
@[simp] theorem au5(k:cc)(n:Int):sM (.int k n) = .val (.int k n):=rfl
@[simp] theorem au7(s:ByteArray):sM (.string s) = .val (.string s):=rfl
@[simp] theorem au4(b:Bool):sM (.bool b) = .b b:=rfl
@[simp] theorem ava(s:ByteArray):keyOf (.val (.string s))=aE (.string s):=rfl
@[simp] theorem au8(b:Bool):keyOf (.b b)=aE (.bool b):=rfl
@[simp] theorem au9(k:cc)(n:Int):keyOf (.val (.int k n))=aE (.int k n):=rfl
@[simp] theorem avt(v:Nat)(H:gd):mY .map (.gH v) H=(lW H v).bind λp=>aE (.i p.2.l):=by simp only[mY];cases lW H v<;>rfl
@[simp] theorem atq(ls:List mQ)(neg:Bool)(x y:D):Bk dx ls neg x y=(mO ls [x] [y]).bind λr=>aE (.b (if neg then !r else r)):=by simp only[Bk];cases mO ls [x] [y]<;>rfl
@[simp] theorem atp(ls:List mQ)(neg:Bool)(x y:List D):Bk cp ls neg (.agg x) (.agg y)=(mO ls x y).bind λr=>aE (.b (if neg then !r else r)):=by simp only[Bk];cases mO ls x y<;>rfl
@[simp] theorem ar9:mO [] [] []=aE true:=rfl
@[simp] theorem ar8(l:mQ)(ls:List mQ)(x y:D)(xs c:List D):mO (l::ls) (x::xs) (y::c)=(uG l x y).bind λa=>(mO ls xs c).bind λb=>aE (a&&b):=by show(match uG l x y,mO ls xs c with|some a,aE b=>aE (a&&b)|_,_=>di)=_;cases uG l x y<;>cases mO ls xs c<;>rfl
@[simp] theorem ar6(a b:Int):uG .int (.i a) (.i b)=aE (decide (a=b)):=by simp[uG,BEq.beq]
@[simp] theorem ar5(a b:Bool):uG .bool (.b a) (.b b)=aE (a == b):=rfl
@[simp] theorem ar7(a b:ByteArray):uG .str (.val (.string a)) (.val (.string b))=aE (a.data.toList == b.data.toList):=rfl
attribute [simp] gW kill um Ct gT kd vh wu uE uD mH OB lay Al.last rz mE nY KK.has gK
@[simp] theorem azQ(v g sz off n:Nat):nI (.gf v g sz off n) = [(v,di)]:=rfl
@[simp] theorem azP(v:Nat):nI (.gH v) = [(v,di)]:=rfl
@[simp] theorem azS(sz:Nat)(es:List (List D)):nI (.sl sz es) = []:=rfl
@[simp] theorem azN:nI .gi = []:=rfl
@[simp] theorem azT(v:ek):nI (.val v) = []:=rfl
@[simp] theorem azK(cs:List D):nI (.agg cs) = []:=rfl
@[simp] theorem azO(cs:List D):nI (.gC cs) = []:=rfl
@[simp] theorem azR(v g o:Nat):nI (.ptr v g o) = []:=rfl
@[simp] theorem azM(l:List Int):nI (dI l) = []:=by unfold dI;rfl
def XB(d:D)(P Q:Prop)(_:Tag (PProd.mk P Q)):Prop:=∃x,d = .b x/\(x=cp->P)/\(x=dx->Q)
def X2(x:Bool)(P Q:Prop)(_:Tag (PProd.mk P Q)):Prop:=(x=cp->P)/\(x=dx->Q)
@[simp] theorem aoZ(P Q:Prop):X2 cp P Q .mk=P:=by simp[X2]
@[simp] theorem aoW(P Q:Prop):X2 dx P Q .mk=Q:=by simp[X2]
@[simp] theorem aoX(x:Bool)(P Q:Prop):X2 (!x) P Q .mk=X2 x Q P .mk:=by cases x<;>simp[X2]
@[simp] theorem aoY(x y:Bool)(P Q:Prop):X2 (!x || !y) P Q .mk=X2 (x&&y) Q P .mk:=by cases x<;>cases y<;>simp[X2]
theorem X2.d{p:Prop}[Decidable p]{P Q:Prop}(h:p->P)(k:¬p->Q):X2 (decide p) P Q .mk:=⟨λe=>h (of_decide_eq_true e),λe=>k (of_decide_eq_false e)⟩
def X2.a{p q:Prop}[Decidable p][Decidable q]{P Q:Prop}(h:p->q->P)(k:¬(p/\q)->Q):X2 (decide p&&decide q) P Q .mk:=by rw[<-cZ];exact X2.d (λe=>h e.1 e.2) k
def X2.o{p q:Prop}[Decidable p][Decidable q]{P Q:Prop}(h:p\/q->P)(k:¬(p\/q)->Q):X2 (decide p||decide q) P Q .mk:=by rw[<-fJ];exact X2.d h k
def X2.z{p:Prop}[Decidable p]{P Q:Prop}(h:¬p)(k:Q):X2 (decide p) P Q .mk:=X2.d (λn=>absurd n h) (λ_=>k)
@[simp] theorem ao1(x:Bool)(a b:D)(P Q:Prop):XB (bif x then a else b) P Q .mk=X2 x (XB a P Q .mk) (XB b P Q .mk) .mk:=by cases x<;>simp
def X2.b{x:Bool}{P Q:Prop}(h:x=cp->P)(k:x=dx->Q):X2 x P Q .mk:=⟨h,k⟩
def Xg{p q:Prop}(b:q)(a:p:=by first|omega|assumption):p/\q:=⟨a,b⟩
@[simp] theorem ao0(x:Bool)(P Q:Prop):XB (.b x) P Q .mk=X2 x P Q .mk:=by cases x<;>simp[XB,X2]
@[simp high] theorem ao3(P Q:Prop):XB (.b cp) P Q .mk=P:=by simp[XB]
@[simp high] theorem ao2(P Q:Prop):XB (.b dx) P Q .mk=Q:=by simp[XB]
def XG(g:Option Bool)(P Q:Prop)(_:Tag (PProd.mk P Q)):Prop:=∃x,g=aE x/\(x=cp->P)/\(x=dx->Q)
@[simp] theorem apj(x:Bool)(P Q:Prop):XG (aE x) P Q .mk=X2 x P Q .mk:=by cases x<;>simp[XG,X2]
@[simp high] theorem apm(P Q:Prop):XG (aE cp) P Q .mk=P:=by simp[XG]
@[simp high] theorem apl(P Q:Prop):XG (aE dx) P Q .mk=Q:=by simp[XG]
@[simp] theorem apk(x w:Bool)(a b:D)(P Q:Prop):XG (gB (bif x then a else b) w) P Q .mk=X2 x (XG (gB a w) P Q .mk) (XG (gB b w) P Q .mk) .mk:=by cases x<;>simp
def kp(s:St)(dst:Option Nat)(K:St->Prop):D×Dl->Prop:=λp=>K { s with env:=put s.env dst p.1,H:=p.2.app s.H (Al.last s.H) }
def kt(s:St)(dst:Option Nat)(R:List Fp)(Q:Rc->St->Prop):D×Dl->Prop:=λp=>Q ⟨R,kd s.H.l p.2⟩ { s with env:=put s.env dst p.1,H:=p.2.app s.H (Al.last s.H) }
section
variable(T:iF)
def gy(f:b4)(args:List D)(dst:Option Nat)(s:St)(K:St->Prop)(_:Tag (dst,s,K)):Prop:=
 (∃fn,T.fn f=aE fn/\fn.full=dx/\Wf T f (args.map (gw (λ_=>di) s.H 40)) [] λd Hn=>oA (after s dst args d Hn) K .mk) \/
 (∃fn,T.fn f=aE fn/\fn.full=cp/\Wf T f args s.H λd H'=>K { s with env:=put s.env dst d,H:=H' })
def iZ(f:b4)(args:List D)(R:List Fp)(dst:Option Nat)(s:St)(Q:Rc->St->Prop)(_:Tag (dst,s,Q)):Prop:=
 ∃fn d,T.fn f=aE fn/\fn.full=dx/\Wf T f (args.map (gw (λ_=>di) s.H 40)) [] (λd' Hn=>d'=d/\Hn = [])/\(if gK args then closed d else flat d)=cp/\Q ⟨R,[]⟩ { s with env:=put s.env dst d }
def wT(f:b4)(args:List D)(R:List Fp)(dst:Option Nat)(s:St)(Q:Rc->St->Prop)(t:Tag (dst,s,Q)):Prop:=
 iZ T f args R dst s Q t\/∃fn d ob,T.fn f=aE fn/\fn.full=dx/\Wf T f (args.map (gw (λ_=>di) s.H 40)) [] (λd' Hn=>d'=d/\Hn = [ob]) /\
  (if gK args then mL d&&nN ob else oR d&&pv ob)=cp/\Q ⟨R,[(s.H.l,di)]⟩ { s with env:=put s.env dst (kE s.H.l d),H:=s.H ++ [ob] }
def pK(f:b4)(args:List D)(R:List Fp)(dst:Option Nat)(s:St)(Q:Rc->St->Prop)(t:Tag (dst,s,Q)):Prop:=
 wT T f args R dst s Q t\/(∃fn d v,T.fn f=aE fn/\fn.full=dx/\(∀u∈(args.map (iB s.H 40)).flatten,u=v)/\v∈(args.map (iB s.H 40)).flatten/\(rowsOf s.H v).isSome=cp /\
  gK (args.map (gw (λ_=>di) s.H 40))=cp/\Wf T f (args.map (gw (λ_=>di) s.H 40)) [] (λd' Hn=>d'=d/\Hn = [])/\closed d=cp/\Q ⟨R,[(v,di)]⟩ { s with env:=put s.env dst d,H:=s.H.set v .dead }) \/
 ∃fn d v ob,T.fn f=aE fn/\v∈(args.map (iB s.H 40)).flatten/\s.H[v]? = aE ob/\Ar (v+1) d=cp/\(∀H:gd,H[v]? = aE ob->∃F,Wf T f args H λd' Hn=>d'=d/\Hn=H++F)/\Q ⟨R,[]⟩ { s with env:=put s.env dst d }
def Cv(v rf:Nat)(dst:Option Nat)(s:St)(K:St->Prop):jb:=λo=>∃a,o.st.H[v]? = aE (.iu rf a .busy)/\K { s with env:=put s.env dst (.b !o.stop),H:=o.st.H.set v (.iu rf a o.AM) }
def q'(v:Nat)(args:List D)(dst:Option Nat)(s:St)(K:St->Prop)(_:Tag (dst,s,K)):Prop:=
 ∃rf env0 Rd,s.H[v]? = aE (.iu rf env0 .ready)/\T.round rf=aE Rd/\args.l=Rd.params.l /\
  Wc T Rd.a { env:=uq Rd.params args env0,H:=s.H,iG:=cp } λo=>∃s1 a,o = .norm s1/\s1.H[v]? = aE (.iu rf a .ready)/\Wc T Rd.b { s1 with H:=s1.H.set v (.iu rf a .busy) } (Cv v rf dst s K)
def wS(d:D)(args:List D)(dst:Option Nat)(s:St)(K:St->Prop)(t:Tag (dst,s,K)):Prop:=
 match d with
 | .iQ v=>q' T v args dst s K t
 | d=>oA (Mv args d) (λp=>gy T p.1 p.2 dst s K t) .mk
def uC(x:D)(dst:Option Nat)(s:St)(K:St->Prop)(_:Tag (dst,s,K)):Prop:=
 ∃v m since seen kk es,x = .ptr v 0 0/\s.H[v]? = aE (.jo (.gH m) since seen)/\s.H[m]? = aE (.map kk es)/\es.l=since /\
  ((∀i,i<es.l->i∈seen)->K { s with env:=put s.env dst (.tup [.b dx]) }) /\
  (∀i k d,es[i]? = aE (k,d)->i ∉ seen->K { s with env:=put s.env dst (.tup [.b cp,sM k,d]),H:=s.H.set v (.jo (.gH m) since (seen ++ [i])) })
def jc(op:iT)(dst:Option Nat)(s:St)(K:St->Prop):Prop:=
 match op with
 | .call f args=>gy T f (args.map (ev s.env.get)) dst s K .mk
 | .callN f args=>gy T f (args.map (ev s.env.get)) dst s K .mk
 | .callv f args=>wS T (ev s.env.get f) (args.map (ev s.env.get)) dst s K .mk
 | .nilS a b=>oA (mH s.env.get s.H s.H.l (.nilS a b)) (kp s dst K) .mk
 | .capE a=>oA (mH s.env.get s.H s.H.l (.capE a)) (kp s dst K) .mk
 | .appZ a b c d e f=>oA (mH s.env.get s.H s.H.l (.appZ a b c d e f)) (kp s dst K) .mk
 | .clr a b c=>oA (mH s.env.get s.H s.H.l (.clr a b c)) (kp s dst K) .mk
 | .rangeS a=>oA (mH s.env.get s.H s.H.l (.rangeS a)) (kp s dst K) .mk
 | .nextS a=>oA (mH s.env.get s.H s.H.l (.nextS a)) (kp s dst K) .mk
 | .rangeM a=>oA (mH s.env.get s.H s.H.l (.rangeM a)) (kp s dst K) .mk
 | .entry a=>oA (mH s.env.get s.H s.H.l (.entry a)) (kp s dst K) .mk
 | .mapEnt a b c d=>oA (mH s.env.get s.H s.H.l (.mapEnt a b c d)) (kp s dst K) .mk
 | .entSt a b c=>oA (mH s.env.get s.H s.H.l (.entSt a b c)) (kp s dst K) .mk
 | .nextM a=>uC (ev s.env.get a) dst s K .mk
 | op=>oA (gW s.env.get s.H s.H.l op) (kp s dst K) .mk
def kb(op:iT)(dst:Option Nat)(s:St)(Q:Rc->St->Prop):Prop:=
 match op with
 | .call f args=>iZ T f (args.map (ev s.env.get)) (gT s.env.get s.H (.call f args)) dst s Q .mk
 | .callN f args=>pK T f (args.map (ev s.env.get)) (gT s.env.get s.H (.callN f args)) dst s Q .mk
 | .callv f args=>oA (kC s.env.get (.callv f args)) (λp=>iZ T p.1 p.2 (gT s.env.get s.H (.callv f args)) dst s Q .mk) .mk
 | op=>oA (gW s.env.get s.H s.H.l op) (kt s dst (gT s.env.get s.H op) Q) .mk
def XO:List il->St->(St->Prop)->Prop
 | [],s,K=>K s
 | e::r,s,K=>XG (guardOf s.env.get e.guard) (jc T e.op e.dst s λa=>XO r a K) (XO r { s with env:=put s.env e.dst (.val undef) } K) .mk
def XT:List il->St->(List Rc->St->Prop)->Prop
 | [],s,K=>K [] s
 | e::r,s,K=>XG (guardOf s.env.get e.guard) (kb T e.op e.dst s λrc b=>XT r b λrs a=>K (rc::rs) a) (XT r { s with env:=put s.env e.dst (.val undef) } λrs a=>K (⟨[],[]⟩::rs) a) .mk
end
section
variable{T:iF}
theorem S4{α:Type}{x:Option α}{P Q:α->Prop}{t:Tag P}{u:Tag Q}(h:oA x P t)(hi:∀a,P a->Q a):oA x Q u:=by obtain⟨a,h1,b⟩:=h;exact⟨a,h1,hi a b⟩
theorem gy.mono{f:b4}{args:List D}{dst:Option Nat}{s:St}{K c:St->Prop}{t:Tag (dst,s,K)}{u:Tag (dst,s,c)}(h:gy T f args dst s K t)(hi:∀s,K s->c s):gy T f args dst s c u:=by
 rcases h with⟨fn,b,a,h⟩|⟨fn,b,a,h⟩
 .exact .inl ⟨fn,b,a,Wf.mono h λd Hn h=>S4 h hi⟩
 .exact .inr ⟨fn,b,a,Wf.mono h λd H h=>hi _ h⟩
theorem q'.mono{v:Nat}{args:List D}{dst:Option Nat}{s:St}{K a:St->Prop}{t:Tag (dst,s,K)}{u:Tag (dst,s,a)}(h:q' T v args dst s K t)(hi:∀s,K s->a s):q' T v args dst s a u:=by obtain⟨rf,env0,Rd,d,f,hl,h⟩:=h;exact⟨rf,env0,Rd,d,f,hl,h.mono λo ⟨s1,c,e,h1,j⟩=>⟨s1,c,e,h1,j.mono λo ⟨b,i,g⟩=>⟨b,i,hi _ g⟩⟩⟩
theorem wS.mono{d:D}{args:List D}{dst:Option Nat}{s:St}{K a:St->Prop}{t:Tag (dst,s,K)}{u:Tag (dst,s,a)}(h:wS T d args dst s K t)(hi:∀s,K s->a s):wS T d args dst s a u:=by
 unfold wS at h ⊢;split at h
 .exact q'.mono h hi
 .exact S4 h λp b=>gy.mono b hi
theorem uC.mono{x:D}{dst:Option Nat}{s:St}{K a:St->Prop}{t:Tag (dst,s,K)}{u:Tag (dst,s,a)}(h:uC x dst s K t)(hi:∀s,K s->a s):uC x dst s a u:=by obtain⟨v,m,since,seen,kk,es,h1,g,f,e,c,b⟩:=h;exact⟨v,m,since,seen,kk,es,h1,g,f,e,λh=>hi _ (c h),λi k d l j=>hi _ (b i k d l j)⟩
theorem jc.mono{op:iT}{dst:Option Nat}{s:St}{K a:St->Prop}(h:jc T op dst s K)(hi:∀s,K s->a s):jc T op dst s a:=by
 unfold jc at h ⊢
 split at h<;>first
  | exact gy.mono h hi
  | exact wS.mono h hi
  | exact uC.mono h hi
  | exact S4 h λp b=>hi _ b
theorem XO.mono:∀ {l:List il} {s:St} {K a:St->Prop},XO T l s K->(∀s,K s->a s)->XO T l s a
 | [],s,K,a,h,hi=>hi s h
 | e::r,s,K,a,h,hi=>by obtain⟨x,hg,b,c⟩:=h;exact⟨x,hg,λe=>jc.mono (b e) λd h=>XO.mono h hi,λe=>XO.mono (c e) hi⟩
theorem gy.wo{f:b4}{args:List D}{s:St}{K:St->Prop}{e:il}{r:List il}(hg:guardOf s.env.get e.guard=aE cp)(l:kC s.env.get e.op=aE (f,args))(h:gy T f args e.dst s (λg=>Wo T r g K) .mk):Wo T (e::r) s K:=by
 rcases h with⟨fn,j,i,h⟩|⟨fn,j,i,h⟩
 .refine Ev.Gg hg l j i h (λd Hn b=>?_) λd Hn g b k=>?_
  .obtain⟨d',H',a,g,hs,c⟩:=b;cases a;rw[hs];rfl
  .obtain⟨d',H',a,m,hs,c⟩:=b;cases a;rw[hs]at k;cases k;exact c
 .exact Ev.Gf hg l j i h λd H' b=>by obtain⟨d',H2,a,c⟩:=b;cases a;exact c
theorem XO.xI{l2:List il}{K:St->Prop}:∀ {l:List il} {s:St},XO T l s (λb=>Wo T l2 b K)->Wo T (l++l2) s K
 | [],s,h=>h
 | e::r,s,h=>by
  obtain⟨x,hg,F,t⟩:=h
  cases x with
  | false=>exact Wo.off hg (XO.xI (t rfl))
  | true=>
   have h:=F rfl;have plain:oA (gW s.env.get s.H s.H.l e.op) (kp s e.dst λb=>XO T r b λb=>Wo T l2 b K) .mk->Wo T (e::r++l2) s K:=λ⟨⟨d,δ⟩,z,y⟩=>Wo.op hg z (XO.xI y);have sp:oA (mH s.env.get s.H s.H.l e.op) (kp s e.dst λb=>XO T r b λb=>Wo T l2 b K) .mk->Wo T (e::r++l2) s K:=λ⟨⟨d,δ⟩,z,y⟩=>Wo.CL hg z (XO.xI y)
   have call:∀f args,kC s.env.get e.op=aE (f,args)->gy T f args e.dst s (λb=>XO T r b λb=>Wo T l2 b K) .mk->Wo T (e::r++l2) s K:=λf args G D=>by
    refine gy.wo hg G ?_;rcases D with⟨fn,t,q,h⟩|⟨fn,t,q,h⟩
    .exact .inl ⟨fn,t,q,Wf.mono h λd Hn ⟨b,h1,g⟩=>⟨b,h1,XO.xI g⟩⟩
    .exact .inr ⟨fn,t,q,Wf.mono h λd Hn h1=>XO.xI h1⟩
   unfold jc at h;split at h
   case h_1 f args c=>exact call _ _ (by rw[c];rfl) h
   case h_2 f args c=>exact call _ _ (by rw[c];rfl) h
   case h_3 f args c=>
    unfold wS at h;split at h
    .rename_i v E;obtain⟨rf,env0,Rd,B,H,hl,h⟩:=h;have C:yieldOf s.env.get e.op=aE (v,args.map (ev s.env.get)):=by rw[c];simp only[yieldOf,E]
     refine Ev.Mu hg C B H hl h (λo ⟨o',j,s1,A,u,h1,g⟩=>?_) (Rb:=PO (Cv v rf e.dst s λb=>XO T r b λb=>Wo T l2 b K)) (λs1 A ⟨o',j,N,w,u,h1,g⟩ n=>?_) (λo ⟨o',j,w,h1,g⟩=>?_) λo w ⟨o',j,M,h1,g⟩ n=>?_
     .cases j;subst u;exact⟨rfl,A,h1⟩
     .cases j;cases u;rw[h1]at n;cases n;exact g
     .cases j;exact⟨w,h1⟩
     .cases j;rw[h1]at n;cases n;exact XO.xI g
    .rename_i O;obtain⟨p,q,h⟩:=h;exact call p.1 p.2 (by rw[c,acm];exact q) h
   case h_14 a c=>
    obtain⟨v,m,since,seen,kk,es,h1,g,n,L,J,I⟩:=h;exact Ev.next hg c h1 g n L (λk=>XO.xI (J k)) λi k d j u=>XO.xI (I i k d j u)
   case h_15=>exact plain h
   all_goals (rename_i c;exact sp (by rw[c];exact h))
theorem XO.wo{l:List il}{s:St}{K:St->Prop}(h:XO T l s K):Wo T l s K:=by have:=XO.xI (l2:=[]) (K:=K) (XO.mono h λa k=>Wo.nil k);rwa [aB]at this
theorem XT.wt:∀ {l:List il} {s:St} {K:List Rc->St->Prop},XT T l s K->Wt T l s K
 | [],s,K,h=>Wt.nil h
 | e::r,s,K,h=>by
  obtain⟨x,hg,D,g⟩:=h
  cases x with
  | false=>exact Wt.off hg (XT.wt (g rfl))
  | true=>
   have h:=D rfl
   have call:∀f args,kC s.env.get e.op=aE (f,args)->iZ T f args (gT s.env.get s.H e.op) e.dst s (λrc o=>XT T r o λrs n=>K (rc::rs) n) .mk->Wt T (e::r) s K:=λf args E ⟨fn,d,g,i,b,t,c⟩=>
    Ev.Jc hg E g i b (λd' Hn ⟨d2,H2,a,j⟩=>by cases a;exact j) t (XT.wt c) λrs o ⟨z,n,a,k⟩=>by cases a;exact⟨_,_,rfl,k⟩
   unfold kb at h;split at h
   case h_1 f args a=>exact call _ _ (by rw[a];rfl) (by rw[a];exact h)
   case h_2 f args a=>
    rcases h with(h|⟨fn,d,ob,g,i,b,t,c⟩)|⟨fn,d,v,g,i,hS,w,B,t,b,y,c⟩|⟨fn,d,v,ob,g,w,C,A,b,c⟩
    .exact call _ _ (by rw[a];rfl) (by rw[a];exact h)
    .exact Ev.Je hg a rfl g i b (λd' Hn ⟨d2,H2,a,j⟩=>by cases a;exact j) t (XT.wt c) λrs o ⟨z,n,u,k⟩=>by cases u;rw[a];exact⟨_,_,rfl,k⟩
    .exact Ev.Jf hg a rfl g i hS w B t b (λd' Hn ⟨d2,H2,a,j⟩=>by cases a;exact j) y (XT.wt c) λrs o ⟨z,n,u,k⟩=>by cases u;rw[a];exact⟨_,_,rfl,k⟩
    .exact Ev.Pv hg a rfl g w C (R0:=λH r=>∃(m:H[v]? = aE ob),∃d2 H2,r = .val d2 H2/\d2=d/\H2=H++(b H m).choose) (λH m=>Ev.mono (b H m).choose_spec λr y=>⟨m,y⟩) (λH=>by
      by_cases m:H[v]? = aE ob
      .exact⟨(b H m).choose,λd' Hn ⟨_,d2,H2,e,q⟩=>by cases e;exact q⟩
      .exact⟨[],λd' Hn ⟨h,_⟩=>absurd h m⟩) A (XT.wt c) λrs o ⟨z,n,u,k⟩=>by cases u;rw[a];exact⟨_,_,rfl,k⟩
   case h_3 f args a=>obtain⟨p,i,h⟩:=h;exact call p.1 p.2 (by rw[a];exact i) (by rw[a];exact h)
   case h_4=>obtain⟨⟨d,δ⟩,j,c⟩:=h;exact Wt.op hg j (XT.wt c)
end
def lx:IR->IR
 | .seq a b=>.seq (lx a) (lx b)
 | .cond c a b=>.cond c (lx a) (lx b)
 | .block id live a=>.block id live (lx a)
 | .loop live a=>.loop live (lx a)
 | .fz _ a=>lx a
 | .vu _ a b=>.ops (a++b)
 | c=>c
def uf:IR->Bool
 | .seq a b=>uf a&&uf b
 | .cond _ a b=>uf a&&uf b
 | .block _ _ a=>uf a
 | .loop _ a=>uf a
 | .fz _ _=>dx
 | .vu _ _ _=>dx
 | _=>cp
theorem oT:∀ {c:IR},uf c=cp->lx c=c
 | .seq a b,h=>by simp only[uf,ai]at h;rw[lx,oT h.1,oT h.2]
 | .cond _ a b,h=>by simp only[uf,ai]at h;rw[lx,oT h.1,oT h.2]
 | .block _ _ a,h=>by rw[lx,oT (c:=a) h]
 | .loop _ a,h=>by rw[lx,oT (c:=a) h]
 | .fz _ _,h=>by cases h
 | .vu _ _ _,h=>by cases h
 | .skip,_ | .ops _,_ | .mg _ _,_ | .mS _ _ _,_ | .oD _ _ _,_ | .exit _,_ | .ret,_ | .bad,_=>rfl
def mm(k:Nat):List il->Bool
 | { dst:=aE j,.. }::_=>decide (j=k)
 | _=>dx
def ji(k:Nat)(S:List Nat):IR->IR
 | .ops l=>bif mm k l then .fz S (.ops l)else .ops l
 | .mg p l=>bif mm k l then .fz S (.mg p l)else .mg p l
 | .mS p l e=>bif mm k l then .fz S (.mS p l e)else .mS p l e
 | .seq a b=>.seq (ji k S a) (ji k S b)
 | .cond c a b=>.cond c (ji k S a) (ji k S b)
 | .block id live a=>.block id live (ji k S a)
 | .loop live a=>.loop live (ji k S a)
 | .fz d a=>.fz d (ji k S a)
 | c=>c
theorem AR(k:Nat)(S:List Nat):∀c:IR,lx (ji k S c)=lx c
 | .ops l=>by unfold ji;cases mm k l<;>rfl
 | .mg p l=>by unfold ji;cases mm k l<;>rfl
 | .mS p l e=>by unfold ji;cases mm k l<;>rfl
 | .seq a b=>by simp only[ji,lx,AR k S a,AR k S b]
 | .cond c a b=>by simp only[ji,lx,AR k S a,AR k S b]
 | .block id live a=>by simp only[ji,lx,AR k S a]
 | .loop live a=>by simp only[ji,lx,AR k S a]
 | .fz d a=>by simp only[ji,lx,AR k S a]
 | .skip | .oD _ _ _ | .exit _ | .ret | .bad | .vu _ _ _=>rfl
def nq(k:Nat):List il->List il
 | []=>[]
 | e::r=>bif mm k [e]then []else e::nq k r
def nA(k:Nat):List il->List il
 | []=>[]
 | e::r=>bif mm k [e]then e::r else nA k r
def nR(k:Nat):List il->Bool
 | []=>dx
 | e::r=>mm k [e]||nR k r
theorem UW(k:Nat):∀l:List il,nq k l++nA k l=l
 | []=>rfl
 | e::r=>by unfold nq nA;cases mm k [e]<;>simp[UW k r]
def kK(k:Nat)(S:List Nat):IR->IR
 | .ops l=>bif nR k l then .vu S (nq k l) (nA k l)else .ops l
 | .seq a b=>.seq (kK k S a) (kK k S b)
 | .cond c a b=>.cond c (kK k S a) (kK k S b)
 | .block id live a=>.block id live (kK k S a)
 | .loop live a=>.loop live (kK k S a)
 | .fz d a=>.fz d (kK k S a)
 | c=>c
theorem AS(k:Nat)(S:List Nat):∀c:IR,lx (kK k S c)=lx c
 | .ops l=>by unfold kK;cases nR k l<;>simp[lx,UW]
 | .seq a b=>by simp only[kK,lx,AS k S a,AS k S b]
 | .cond c a b=>by simp only[kK,lx,AS k S a,AS k S b]
 | .block id live a=>by simp only[kK,lx,AS k S a]
 | .loop live a=>by simp only[kK,lx,AS k S a]
 | .fz d a=>by simp only[kK,lx,AS k S a]
 | .skip | .oD _ _ _ | .exit _ | .ret | .bad | .vu _ _ _ | .mg _ _ | .mS _ _ _=>rfl
def gx(T:iF)(live:List Nat)(a:IR)(s:St)(K:jb)(_:Tag (live,a,s,K)):Prop:=Wc T (.loop live (lx a)) s K
def tv(T:iF)(rf:Nat)(live:List Nat)(x:X)(s:St)(K:jb)(_:Tag (live,x,s,K)):Prop:=Wc T (.oD rf live x) s K
@[irreducible] def xw(m S:List Nat):Bool:=m.all λv => !S.contains v
theorem Ip(m S:List Nat):xw m S=m.all λv => !S.contains v:=by unfold xw;rfl
@[simp] theorem ahx(S:List Nat):xw [] S=true:=by rw[Ip];rfl
@[simp] theorem avZ(v:Nat)(m S:List Nat):xw (v::m) S=(!decide (v∈S)&&xw m S):=by rw[Ip,Ip,fR,da]
def PK:D->List Nat
 | .agg cs=>(cs.map (jB 0)).flatten
 | _=>[]
@[simp] theorem aq1(cs:List D):PK (.agg cs)=(cs.map (jB 0)).flatten:=rfl
def qe(env:Env):List Nat->List Nat
 | []=>[]
 | v::r=>if v<1000 then v::qe env r else if v<2000 then jB 0 (env.get (v-1000))++qe env r else PK (env.get (v-2000))++qe env r
@[simp] theorem at1(env:Env):qe env [] = []:=rfl
@[simp] theorem at0(env:Env)(v:Nat)(r:List Nat):qe env (v::r)=if v<1000 then v::qe env r else if v<2000 then jB 0 (env.get (v-1000))++qe env r else PK (env.get (v-2000))++qe env r:=rfl
def XC(T:iF):IR->St->jb->Prop
 | .skip,s,K=>K (.norm s)
 | .ops l,s,K=>XO T l s λd=>K (.norm d)
 | .mg jQ l,s,K=>XT T l s λrs d=>wu jQ rs=cp/\K (.norm d)
 | .mS jQ l es,s,K=>XT T l s λrs d=>wu jQ rs=cp/\XO T es d λd=>K (.norm d)
 | .seq a b,s,K=>XC T a s λo=>match o with
  | .norm d=>XC T b d K
  | o=>K o
 | .cond c a b,s,K=>XB (ev s.env.get c) (XC T a s K) (XC T b s K) .mk
 | .block id live a,s,K=>XC T a s λo=>K (l4 id s.H.l live o)
 | .loop live a,s,K=>gx T live a s K .mk
 | .oD rf live x,s,K=>tv T rf live x s K .mk
 | .exit id,s,K=>K (.exit id s)
 | .ret,s,K=>K (.ret s)
 | .bad,_,_=>False
 | .fz S a,s,K=>xw s.marks (qe s.env S)=cp/\XC T a (mj (qe s.env S) s) K
 | .vu S a b,s,K=>XO T a s λd=>xw d.marks (qe d.env S)=cp/\XO T b (mj (qe d.env S) d) λd=>K (.norm d)
def OF(T:iF)(b:IR)(K:jb):jb:=λo=>match o with
 | .norm a=>XC T b a K
 | o=>K o
def xT(id n:Nat)(live:List Nat)(K:jb):jb:=λo=>K (l4 id n live o)
section
variable{T:iF}
theorem Wc.mj{c:IR}{s:St}{K:jb}(S:List Nat)(a:xw s.marks S=cp)(h:Wc T c (mj S s) K):Wc T c s K:=Ev.GN S (by rwa [Ip]at a) h
theorem XC.wc:∀ {c:IR} {s:St} {K:jb},XC T c s K->Wc T (lx c) s K
 | .skip,s,K,h=>Wc.skip h
 | .ops l,s,K,h=>Wc.ops (XO.wo h)
 | .mg jQ l,s,K,h=>Wc.mg (XT.wt h)
 | .mS jQ l es,s,K,h=>Wc.mS (Ev.mono (XT.wt h) λ_ ⟨rs,d,q,k⟩=>⟨rs,d,q,k.1,XO.wo k.2⟩)
 | .seq a b,s,K,h=>Wc.seq ((XC.wc (c:=a) h).mono λo f=>by
  cases o with
  | norm d=>exact XC.wc (c:=b) f
  | exit=>exact f
  | ret=>exact f)
 | .cond _ _ _,_,_,h=>by obtain⟨x,g,i,j⟩:=h;exact Wc.cond x g (λe=>XC.wc (i e)) λe=>XC.wc (j e)
 | .block _ _ _,_,_,h=>Wc.block (XC.wc h)
 | .loop live a,s,K,h=>h
 | .oD rf live x,s,K,h=>h
 | .exit id,s,K,h=>Wc.exit h
 | .ret,s,K,h=>Wc.ret h
 | .bad,s,K,h=>h.elim
 | .fz S a,s,K,h=>Wc.mj (qe s.env S) h.1 (XC.wc (c:=a) h.2)
 | .vu S a b,s,K,h=>Wc.ops (XO.xI (XO.mono h λd k=>Ev.mj (qe d.env S) (by have:=k.1;rwa [Ip]at this) (XO.wo k.2)))
def u5(ds:List D):D:=match ds with
 | [d]=>d
 | ds=>.tup ds
@[simp] theorem axY(d:D):u5 [d]=d:=rfl
@[simp] theorem axZ(d e:D):u5 [d,e] = .tup [d,e]:=rfl
@[simp] theorem ax0(d e f:D):u5 [d,e,f] = .tup [d,e,f]:=rfl
@[simp] theorem axX:u5 [] = .tup []:=rfl
def zH(rs:List ve)(own n:Nat)(K:D->gd->Prop):jb:=λo=>match o with
 | .norm s | .ret s=>oA (kill s.marks s.H) (λH=>oA (um { s with H:=H } rs) (λds=>K (leave own n H (u5 ds)).1 (leave own n H (u5 ds)).2) .mk) .mk
 | .exit _ _=>False
theorem Wf.xz(own:Nat){f:b4}{args:List D}{H:gd}{fn:jq}{K:D->gd->Prop}(c:IR)(g:T.fn f=aE fn)(hl:args.l<=fn.ntmps)(i:lx c=fn.body)
  (h:XC T c { env:=ti args,H:=H } (zH fn.results own H.l K)):Wf T f args H K:=by
 have key:∀s:St,(oA (kill s.marks s.H) (λH'=>oA (um { s with H:=H' } fn.results) (λds=>K (leave own H.l H' (u5 ds)).1 (leave own H.l H' (u5 ds)).2) .mk) .mk)->∃d H',(match kill s.marks s.H with
  | some H1=>match results fn { s with H:=H1 }with
   | some d=>aE (leave own H.l H1 d)
   | none=>di
  | none=>di)=aE (d,H')/\K d H':=by
  rintro s ⟨H1,h1,ds,j,e⟩;rw[h1];refine⟨_,_,?_,e⟩;unfold AL.results;dsimp only;rw[j]
  cases ds with
  | nil=>rfl
  | cons a l=>cases l<;>rfl
 refine Wf.call own g hl (i▸(XC.wc h).mono λo b=>?_)
 cases o with
 | norm s=>exact key s b
 | ret s=>exact key s b
 | exit=>exact b.elim
theorem Wf.xo(own:Nat){f:b4}{args:List D}{H:gd}{fn:jq}{K:D->gd->Prop}(b:T.fn f=aE fn)(hl:args.l<=fn.ntmps)
  (h:XC T fn.body { env:=ti args,H:=H } (zH fn.results own H.l K)) (a:uf fn.body=true:=by rfl):Wf T f args H K:=Wf.xz own fn.body b hl (oT a) h
theorem Wf.x{f:b4}{args:List D}{H:gd}{fn:jq}{K:D->gd->Prop}(b:T.fn f=aE fn)(hl:args.l<=fn.ntmps)
  (h:XC T fn.body { env:=ti args,H:=H } (zH fn.results fn.own H.l K)) (a:uf fn.body=true:=by rfl):Wf T f args H K:=Wf.xo fn.own b hl h a
theorem gy.is{f:b4}{args:List D}{dst:Option Nat}{s:St}{K:St->Prop}{fn:jq}{K0:D->gd->Prop}(b:T.fn f=aE fn)(a:fn.full=dx)(h:Wf T f (args.map (gw (λ_=>di) s.H 40)) [] K0)
  (k:∀d Hn,K0 d Hn->oA (after s dst args d Hn) K .mk):gy T f args dst s K .mk:=.inl ⟨fn,b,a,Wf.mono h k⟩
theorem gy.lr{f:b4}{args:List D}{dst:Option Nat}{s:St}{K:St->Prop}{fn:jq}{K0:D->gd->Prop}(b:T.fn f=aE fn)(a:fn.full=cp)(h:Wf T f args s.H K0)
  (k:∀d H',K0 d H'->K { s with env:=put s.env dst d,H:=H' }):gy T f args dst s K .mk:=.inr ⟨fn,b,a,Wf.mono h k⟩
theorem gy.c{f:b4}{args:List D}{dst:Option Nat}{s:St}{K:St->Prop}{fn:jq}{x:D}(e:T.fn f=aE fn)(c:fn.full=dx)(h:Wf T f args [] λd H'=>d=x/\H' = [])
  (a:gK args=cp) (b:closed x=cp) (k:K { s with env:=put s.env dst x }):gy T f args dst s K .mk:=by
 refine gy.is e c (K0:=λd H'=>d=x/\H' = []) ?_ ?_
 .have i:args.map (gw (λ_=>di) s.H 40)=args:=by
   conv=>rhs;rw[<-aY args]
   exact au λd g=>p7 (lP a d g)
  rw[i];exact h
 .rintro d Hn ⟨rfl,rfl⟩;obtain⟨k1,k2⟩:=Gk (H:=s.H) b;refine⟨{ s with env:=put s.env dst d },?_,k⟩;unfold after;rw[if_pos a,k1,k2];simp
theorem gy.r{f:b4}{args nM:List D}{dst:Option Nat}{s:St}{K:St->Prop}{fn:jq}{x:D}(e:T.fn f=aE fn)(c:fn.full=dx)(h:Wf T f nM [] λd H'=>d=x/\H' = [])
  (hs:args.map (gw (λ_=>di) s.H 40)=nM) (b:flat x=cp) (a:closed x=cp) (k:K { s with env:=put s.env dst x }):gy T f args dst s K .mk:=by
 refine gy.is e c (K0:=λd H'=>d=x/\H' = []) (by rw[hs];exact h) ?_;rintro d Hn ⟨rfl,rfl⟩;obtain⟨k1,k2⟩:=Gk (H:=s.H) a;refine⟨{ s with env:=put s.env dst d },?_,k⟩;have:oR d=true:=(Qw (H:=s.H) b).1;unfold after;rw[this,k1,k2];simp
theorem iZ.c{f:b4}{args:List D}{R:List Fp}{dst:Option Nat}{s:St}{Q:Rc->St->Prop}{fn:jq}{x:D}(e:T.fn f=aE fn)(c:fn.full=dx)(h:Wf T f args [] λd H'=>d=x/\H' = [])
  (a:gK args=cp) (b:closed x=cp) (k:Q ⟨R,[]⟩ { s with env:=put s.env dst x }):iZ T f args R dst s Q .mk:=by
 refine⟨fn,x,e,c,?_,by rw[if_pos a];exact b,k⟩
 have i:args.map (gw (λ_=>di) s.H 40)=args:=by
  conv=>rhs;rw[<-aY args]
  exact au λd g=>p7 (lP a d g)
 rw[i];exact h
theorem iZ.r{f:b4}{args nM:List D}{R:List Fp}{dst:Option Nat}{s:St}{Q:Rc->St->Prop}{fn:jq}{x:D}(b:T.fn f=aE fn)(a:fn.full=dx)(h:Wf T f nM [] λd H'=>d=x/\H' = [])
  (hs:args.map (gw (λ_=>di) s.H 40)=nM) (e:flat x=cp) (c:closed x=cp) (k:Q ⟨R,[]⟩ { s with env:=put s.env dst x }):iZ T f args R dst s Q .mk:=
 ⟨fn,x,b,a,by rw[hs];exact h,by split<;>assumption,k⟩
variable{s:St}{K:jb}{a b:IR}{l:List il}{op:iT}{k j:Nat}
@[simp ↓] theorem apg:XC T .skip s K=K (.norm s):=(rfl)
@[simp ↓] theorem apc:XC T (.ops l) s K=XO T l s λa=>K (.norm a):=(rfl)
@[simp ↓] theorem ao6{a:List (Nat×Nat)}:XC T (.mg a l) s K=XT T l s λrs b=>wu a rs=cp/\K (.norm b):=(rfl)
@[simp ↓] theorem ao7{b:List (Nat×Nat)}{es:List il}:XC T (.mS b l es) s K=XT T l s λrs a=>wu b rs=cp/\XO T es a λa=>K (.norm a):=(rfl)
@[simp ↓] theorem apf:XC T (.seq a b) s K=XC T a s (OF T b K):=(rfl)
@[simp ↓] theorem ao5{c:X}:XC T (.cond c a b) s K=XB (ev s.env.get c) (XC T a s K) (XC T b s K) .mk:=(rfl)
@[simp ↓] theorem ao4{id:Nat}{live:List Nat}:XC T (.block id live a) s K=XC T a s (xT id s.H.l live K):=(rfl)
@[simp ↓] theorem apb{live:List Nat}:XC T (.loop live a) s K=gx T live a s K .mk:=(rfl)
@[simp ↓] theorem apd{rf:Nat}{live:List Nat}{x:X}:XC T (.oD rf live x) s K=tv T rf live x s K .mk:=(rfl)
@[simp ↓] theorem ao9{S:List Nat}:XC T (.fz S a) s K=(xw s.marks (qe s.env S)=cp/\XC T a (mj (qe s.env S) s) K):=(rfl)
@[simp ↓] theorem apa{S:List Nat}{x y:List il}:XC T (.vu S x y) s K=XO T x s λa=>xw a.marks (qe a.env S)=cp/\XO T y (mj (qe a.env S) a) λa=>K (.norm a):=(rfl)
@[simp ↓] theorem ao8{id:Nat}:XC T (.exit id) s K=K (.exit id s):=(rfl)
@[simp ↓] theorem ape:XC T .ret s K=K (.ret s):=(rfl)
@[simp ↓] theorem awi:OF T b K (.norm s)=XC T b s K:=(rfl)
@[simp ↓] theorem awh{id:Nat}:OF T b K (.exit id s)=K (.exit id s):=(rfl)
@[simp ↓] theorem awj:OF T b K (.ret s)=K (.ret s):=(rfl)
@[simp ↓] theorem UY{id n:Nat}{live:List Nat}:xT id n live K (.norm s)=K (.norm (cut n live s)):=(rfl)
@[simp ↓] theorem arP{id n:Nat}{live:List Nat}:xT id n live K (.ret s)=K (.ret s):=(rfl)
@[simp ↓] theorem UZ{id n:Nat}{live:List Nat}:xT id n live K (.exit id s)=K (.norm (cut n live s)):=by simp[xT,l4]
@[simp ↓] theorem arO{id a n:Nat}{live:List Nat}(h:a≠id):xT id n live K (.exit a s)=K (.exit a s):=by simp[xT,l4,h]
@[simp ↓] theorem atE{rs:List ve}{own n:Nat}{K:D->gd->Prop}:zH rs own n K (.ret s)=oA (kill s.marks s.H) (λH=>oA (um { s with H:=H } rs) (λds=>K (leave own n H (u5 ds)).1 (leave own n H (u5 ds)).2) .mk) .mk:=(rfl)
@[simp ↓] theorem atD{rs:List ve}{own n:Nat}{K:D->gd->Prop}:zH rs own n K (.norm s)=oA (kill s.marks s.H) (λH=>oA (um { s with H:=H } rs) (λds=>K (leave own n H (u5 ds)).1 (leave own n H (u5 ds)).2) .mk) .mk:=(rfl)
@[simp ↓] theorem apn{K:St->Prop}:XO T [] s K=K s:=(rfl)
@[simp ↓] theorem apo{K:St->Prop}:XO T (o k op::l) s K=jc T op (aE k) s λa=>XO T l a K:=by simp[XO,guardOf]
@[simp ↓] theorem apr{K:St->Prop}:XO T (u op::l) s K=jc T op di s λa=>XO T l a K:=by simp[XO,guardOf]
@[simp ↓] theorem apq{g:Bool}{K:St->Prop}:XO T (og j g k op::l) s K=XG (guardOf s.env.get (aE (j,g))) (jc T op (aE k) s λa=>XO T l a K) (XO T l { s with env:=(k,.val undef)::s.env } K) .mk:=(rfl)
@[simp ↓] theorem aps{g:Bool}{K:St->Prop}:XO T (ug j g op::l) s K=XG (guardOf s.env.get (aE (j,g))) (jc T op di s λa=>XO T l a K) (XO T l s K) .mk:=(rfl)
@[simp ↓] theorem aqh{Q:List Rc->St->Prop}:XT T [] s Q=Q [] s:=(rfl)
@[simp ↓] theorem aqi{Q:List Rc->St->Prop}:XT T (o k op::l) s Q=kb T op (aE k) s λrc b=>XT T l b λrs a=>Q (rc::rs) a:=by simp[XT,guardOf]
@[simp ↓] theorem aqk{Q:List Rc->St->Prop}:XT T (u op::l) s Q=kb T op di s λrc b=>XT T l b λrs a=>Q (rc::rs) a:=by simp[XT,guardOf]
@[simp ↓] theorem aqj{g:Bool}{Q:List Rc->St->Prop}:XT T (og j g k op::l) s Q=XG (guardOf s.env.get (aE (j,g))) (kb T op (aE k) s λrc b=>XT T l b λrs a=>Q (rc::rs) a) (XT T l { s with env:=(k,.val undef)::s.env } λrs a=>Q (⟨[],[]⟩::rs) a) .mk:=(rfl)
@[simp ↓] theorem aql{g:Bool}{Q:List Rc->St->Prop}:XT T (ug j g op::l) s Q=XG (guardOf s.env.get (aE (j,g))) (kb T op di s λrc b=>XT T l b λrs a=>Q (rc::rs) a) (XT T l s λrs a=>Q (⟨[],[]⟩::rs) a) .mk:=(rfl)
@[simp ↓] theorem avb{dst:Option Nat}{K:St->Prop}{d:D}{δ:Dl}:kp s dst K (d,δ)=K { s with env:=put s.env dst d,H:=δ.app s.H (Al.last s.H) }:=(rfl)
@[simp ↓] theorem avc{dst:Option Nat}{R:List Fp}{Q:Rc->St->Prop}{d:D}{δ:Dl}:kt s dst R Q (d,δ)=Q ⟨R,kd s.H.l δ⟩ { s with env:=put s.env dst d,H:=δ.app s.H (Al.last s.H) }:=(rfl)
section
variable{dst:Option Nat}{K:St->Prop}{Q:Rc->St->Prop}
@[simp ↓] theorem ap2{x:X}:jc T (.mv x) dst s K=oA (gW s.env.get s.H s.H.l (.mv x)) (kp s dst K) .mk:=(rfl)
@[simp ↓] theorem aqP{x:X}:kb T (.mv x) dst s Q=oA (gW s.env.get s.H s.H.l (.mv x)) (kt s dst (gT s.env.get s.H (.mv x)) Q) .mk:=(rfl)
@[simp ↓] theorem ap7{c a b:X}:jc T (.pick c a b) dst s K=oA (gW s.env.get s.H s.H.l (.pick c a b)) (kp s dst K) .mk:=(rfl)
@[simp ↓] theorem aqR{c a b:X}:kb T (.pick c a b) dst s Q=oA (gW s.env.get s.H s.H.l (.pick c a b)) (kt s dst (gT s.env.get s.H (.pick c a b)) Q) .mk:=(rfl)
@[simp ↓] theorem apy{t:dr}{x:X}:jc T (.box t x) dst s K=oA (gW s.env.get s.H s.H.l (.box t x)) (kp s dst K) .mk:=(rfl)
@[simp ↓] theorem aqq{t:dr}{x:X}:kb T (.box t x) dst s Q=oA (gW s.env.get s.H s.H.l (.box t x)) (kt s dst (gT s.env.get s.H (.box t x)) Q) .mk:=(rfl)
@[simp ↓] theorem apt{t:dr}{z:List D}:jc T (.alloc t z) dst s K=oA (gW s.env.get s.H s.H.l (.alloc t z)) (kp s dst K) .mk:=(rfl)
@[simp ↓] theorem aqm{t:dr}{z:List D}:kb T (.alloc t z) dst s Q=oA (gW s.env.get s.H s.H.l (.alloc t z)) (kt s dst (gT s.env.get s.H (.alloc t z)) Q) .mk:=(rfl)
@[simp ↓] theorem apz{z:List D}{ps:List (Nat×Nat×X)}:jc T (.build z ps) dst s K=oA (gW s.env.get s.H s.H.l (.build z ps)) (kp s dst K) .mk:=(rfl)
@[simp ↓] theorem aqr{z:List D}{ps:List (Nat×Nat×X)}:kb T (.build z ps) dst s Q=oA (gW s.env.get s.H s.H.l (.build z ps)) (kt s dst (gT s.env.get s.H (.build z ps)) Q) .mk:=(rfl)
@[simp ↓] theorem apA{t sz:Nat}{z:List D}{n:Nat}{ps:List (Nat×X)}:jc T (.buildSl t sz z n ps) dst s K=oA (gW s.env.get s.H s.H.l (.buildSl t sz z n ps)) (kp s dst K) .mk:=(rfl)
@[simp ↓] theorem aqs{t sz:Nat}{z:List D}{n:Nat}{ps:List (Nat×X)}:kb T (.buildSl t sz z n ps) dst s Q=oA (gW s.env.get s.H s.H.l (.buildSl t sz z n ps)) (kt s dst (gT s.env.get s.H (.buildSl t sz z n ps)) Q) .mk:=(rfl)
@[simp ↓] theorem apS{x:X}:jc T (.ld1 x) dst s K=oA (gW s.env.get s.H s.H.l (.ld1 x)) (kp s dst K) .mk:=(rfl)
@[simp ↓] theorem aqG{x:X}:kb T (.ld1 x) dst s Q=oA (gW s.env.get s.H s.H.l (.ld1 x)) (kt s dst (gT s.env.get s.H (.ld1 x)) Q) .mk:=(rfl)
@[simp ↓] theorem apT{n:Nat}{x:X}:jc T (.ldN n x) dst s K=oA (gW s.env.get s.H s.H.l (.ldN n x)) (kp s dst K) .mk:=(rfl)
@[simp ↓] theorem aqH{n:Nat}{x:X}:kb T (.ldN n x) dst s Q=oA (gW s.env.get s.H s.H.l (.ldN n x)) (kt s dst (gT s.env.get s.H (.ldN n x)) Q) .mk:=(rfl)
@[simp ↓] theorem aqe{a x:X}:jc T (.st1 a x) dst s K=oA (gW s.env.get s.H s.H.l (.st1 a x)) (kp s dst K) .mk:=(rfl)
@[simp ↓] theorem aqW{a x:X}:kb T (.st1 a x) dst s Q=oA (gW s.env.get s.H s.H.l (.st1 a x)) (kt s dst (gT s.env.get s.H (.st1 a x)) Q) .mk:=(rfl)
@[simp ↓] theorem aqf{n:Nat}{a x:X}:jc T (.stN n a x) dst s K=oA (gW s.env.get s.H s.H.l (.stN n a x)) (kp s dst K) .mk:=(rfl)
@[simp ↓] theorem aqX{n:Nat}{a x:X}:kb T (.stN n a x) dst s Q=oA (gW s.env.get s.H s.H.l (.stN n a x)) (kt s dst (gT s.env.get s.H (.stN n a x)) Q) .mk:=(rfl)
@[simp ↓] theorem ap6{x:X}:jc T (.nilck x) dst s K=oA (gW s.env.get s.H s.H.l (.nilck x)) (kp s dst K) .mk:=(rfl)
@[simp ↓] theorem aqQ{x:X}:kb T (.nilck x) dst s Q=oA (gW s.env.get s.H s.H.l (.nilck x)) (kt s dst (gT s.env.get s.H (.nilck x)) Q) .mk:=(rfl)
@[simp ↓] theorem apw{op:BinOp}{x y:X}:jc T (.arith op x y) dst s K=oA (gW s.env.get s.H s.H.l (.arith op x y)) (kp s dst K) .mk:=(rfl)
@[simp ↓] theorem aqo{op:BinOp}{x y:X}:kb T (.arith op x y) dst s Q=oA (gW s.env.get s.H s.H.l (.arith op x y)) (kt s dst (gT s.env.get s.H (.arith op x y)) Q) .mk:=(rfl)
@[simp ↓] theorem apK{a:Bool}{ls:List mQ}{neg:Bool}{x y:X}:jc T (.eqS a ls neg x y) dst s K=oA (gW s.env.get s.H s.H.l (.eqS a ls neg x y)) (kp s dst K) .mk:=(rfl)
@[simp ↓] theorem aqy{a:Bool}{ls:List mQ}{neg:Bool}{x y:X}:kb T (.eqS a ls neg x y) dst s Q=oA (gW s.env.get s.H s.H.l (.eqS a ls neg x y)) (kt s dst (gT s.env.get s.H (.eqS a ls neg x y)) Q) .mk:=(rfl)
@[simp ↓] theorem aqg{op:UnOp}{x:X}:jc T (.un op x) dst s K=oA (gW s.env.get s.H s.H.l (.un op x)) (kp s dst K) .mk:=(rfl)
@[simp ↓] theorem aqY{op:UnOp}{x:X}:kb T (.un op x) dst s Q=oA (gW s.env.get s.H s.H.l (.un op x)) (kt s dst (gT s.env.get s.H (.un op x)) Q) .mk:=(rfl)
@[simp ↓] theorem apG{k:cc}{x:X}:jc T (.conv k x) dst s K=oA (gW s.env.get s.H s.H.l (.conv k x)) (kp s dst K) .mk:=(rfl)
@[simp ↓] theorem aqw{k:cc}{x:X}:kb T (.conv k x) dst s Q=oA (gW s.env.get s.H s.H.l (.conv k x)) (kt s dst (gT s.env.get s.H (.conv k x)) Q) .mk:=(rfl)
@[simp ↓] theorem apx{x:X}:jc T (.b2s x) dst s K=oA (gW s.env.get s.H s.H.l (.b2s x)) (kp s dst K) .mk:=(rfl)
@[simp ↓] theorem aqp{x:X}:kb T (.b2s x) dst s Q=oA (gW s.env.get s.H s.H.l (.b2s x)) (kt s dst (gT s.env.get s.H (.b2s x)) Q) .mk:=(rfl)
@[simp ↓] theorem apZ{fn:Fn}{first a:List X}:jc T (.mkfn fn first a) dst s K=oA (gW s.env.get s.H s.H.l (.mkfn fn first a)) (kp s dst K) .mk:=(rfl)
@[simp ↓] theorem aqM{fn:Fn}{first a:List X}:kb T (.mkfn fn first a) dst s Q=oA (gW s.env.get s.H s.H.l (.mkfn fn first a)) (kt s dst (gT s.env.get s.H (.mkfn fn first a)) Q) .mk:=(rfl)
@[simp ↓] theorem ap0{kk:KK}:jc T (.mkmap kk) dst s K=oA (gW s.env.get s.H s.H.l (.mkmap kk)) (kp s dst K) .mk:=(rfl)
@[simp ↓] theorem aqN{kk:KK}:kb T (.mkmap kk) dst s Q=oA (gW s.env.get s.H s.H.l (.mkmap kk)) (kt s dst (gT s.env.get s.H (.mkmap kk)) Q) .mk:=(rfl)
@[simp ↓] theorem ap1{t sz bytes:Nat}{z:List D}{l c:X}:jc T (.mksl t sz bytes z l c) dst s K=oA (gW s.env.get s.H s.H.l (.mksl t sz bytes z l c)) (kp s dst K) .mk:=(rfl)
@[simp ↓] theorem aqO{t sz bytes:Nat}{z:List D}{l c:X}:kb T (.mksl t sz bytes z l c) dst s Q=oA (gW s.env.get s.H s.H.l (.mksl t sz bytes z l c)) (kt s dst (gT s.env.get s.H (.mksl t sz bytes z l c)) Q) .mk:=(rfl)
@[simp ↓] theorem aqa{sz:Nat}{x:X}{lo hi:Option X}:jc T (.slc sz x lo hi) dst s K=oA (gW s.env.get s.H s.H.l (.slc sz x lo hi)) (kp s dst K) .mk:=(rfl)
@[simp ↓] theorem aqS{sz:Nat}{x:X}{lo hi:Option X}:kb T (.slc sz x lo hi) dst s Q=oA (gW s.env.get s.H s.H.l (.slc sz x lo hi)) (kt s dst (gT s.env.get s.H (.slc sz x lo hi)) Q) .mk:=(rfl)
@[simp ↓] theorem aqb{sz:Nat}{x:X}{lo:Option X}{hi mx:X}:jc T (.slc3 sz x lo hi mx) dst s K=oA (gW s.env.get s.H s.H.l (.slc3 sz x lo hi mx)) (kp s dst K) .mk:=(rfl)
@[simp ↓] theorem aqT{sz:Nat}{x:X}{lo:Option X}{hi mx:X}:kb T (.slc3 sz x lo hi mx) dst s Q=oA (gW s.env.get s.H s.H.l (.slc3 sz x lo hi mx)) (kt s dst (gT s.env.get s.H (.slc3 sz x lo hi mx)) Q) .mk:=(rfl)
@[simp ↓] theorem aqc{sz n:Nat}{x:X}{lo hi:Option X}:jc T (.slcArr sz n x lo hi) dst s K=oA (gW s.env.get s.H s.H.l (.slcArr sz n x lo hi)) (kp s dst K) .mk:=(rfl)
@[simp ↓] theorem aqU{sz n:Nat}{x:X}{lo hi:Option X}:kb T (.slcArr sz n x lo hi) dst s Q=oA (gW s.env.get s.H s.H.l (.slcArr sz n x lo hi)) (kt s dst (gT s.env.get s.H (.slcArr sz n x lo hi)) Q) .mk:=(rfl)
@[simp ↓] theorem aqd{x:X}{lo hi:Option X}:jc T (.slcS x lo hi) dst s K=oA (gW s.env.get s.H s.H.l (.slcS x lo hi)) (kp s dst K) .mk:=(rfl)
@[simp ↓] theorem aqV{x:X}{lo hi:Option X}:kb T (.slcS x lo hi) dst s Q=oA (gW s.env.get s.H s.H.l (.slcS x lo hi)) (kt s dst (gT s.env.get s.H (.slcS x lo hi)) Q) .mk:=(rfl)
@[simp ↓] theorem apN{off:Nat}{x:X}:jc T (.fieldA off x) dst s K=oA (gW s.env.get s.H s.H.l (.fieldA off x)) (kp s dst K) .mk:=(rfl)
@[simp ↓] theorem aqB{off:Nat}{x:X}:kb T (.fieldA off x) dst s Q=oA (gW s.env.get s.H s.H.l (.fieldA off x)) (kt s dst (gT s.env.get s.H (.fieldA off x)) Q) .mk:=(rfl)
@[simp ↓] theorem apM{off n:Nat}{a:Bool}{x:X}:jc T (.field off n a x) dst s K=oA (gW s.env.get s.H s.H.l (.field off n a x)) (kp s dst K) .mk:=(rfl)
@[simp ↓] theorem aqA{off n:Nat}{a:Bool}{x:X}:kb T (.field off n a x) dst s Q=oA (gW s.env.get s.H s.H.l (.field off n a x)) (kt s dst (gT s.env.get s.H (.field off n a x)) Q) .mk:=(rfl)
@[simp ↓] theorem apP{sz:Nat}{x i:X}:jc T (.idxA sz x i) dst s K=oA (gW s.env.get s.H s.H.l (.idxA sz x i)) (kp s dst K) .mk:=(rfl)
@[simp ↓] theorem aqD{sz:Nat}{x i:X}:kb T (.idxA sz x i) dst s Q=oA (gW s.env.get s.H s.H.l (.idxA sz x i)) (kt s dst (gT s.env.get s.H (.idxA sz x i)) Q) .mk:=(rfl)
@[simp ↓] theorem apQ{sz n:Nat}{x i:X}:jc T (.idxArr sz n x i) dst s K=oA (gW s.env.get s.H s.H.l (.idxArr sz n x i)) (kp s dst K) .mk:=(rfl)
@[simp ↓] theorem aqE{sz n:Nat}{x i:X}:kb T (.idxArr sz n x i) dst s Q=oA (gW s.env.get s.H s.H.l (.idxArr sz n x i)) (kt s dst (gT s.env.get s.H (.idxArr sz n x i)) Q) .mk:=(rfl)
@[simp ↓] theorem apO{sz n:Nat}{a:Bool}{x i:X}:jc T (.idx sz n a x i) dst s K=oA (gW s.env.get s.H s.H.l (.idx sz n a x i)) (kp s dst K) .mk:=(rfl)
@[simp ↓] theorem aqC{sz n:Nat}{a:Bool}{x i:X}:kb T (.idx sz n a x i) dst s Q=oA (gW s.env.get s.H s.H.l (.idx sz n a x i)) (kt s dst (gT s.env.get s.H (.idx sz n a x i)) Q) .mk:=(rfl)
@[simp ↓] theorem apR{x i:X}:jc T (.idxStr x i) dst s K=oA (gW s.env.get s.H s.H.l (.idxStr x i)) (kp s dst K) .mk:=(rfl)
@[simp ↓] theorem aqF{x i:X}:kb T (.idxStr x i) dst s Q=oA (gW s.env.get s.H s.H.l (.idxStr x i)) (kt s dst (gT s.env.get s.H (.idxStr x i)) Q) .mk:=(rfl)
@[simp ↓] theorem apV{kk:KK}{z:D}{ok:Bool}{m k:X}:jc T (.lookup kk z ok m k) dst s K=oA (gW s.env.get s.H s.H.l (.lookup kk z ok m k)) (kp s dst K) .mk:=(rfl)
@[simp ↓] theorem aqJ{kk:KK}{z:D}{ok:Bool}{m k:X}:kb T (.lookup kk z ok m k) dst s Q=oA (gW s.env.get s.H s.H.l (.lookup kk z ok m k)) (kt s dst (gT s.env.get s.H (.lookup kk z ok m k)) Q) .mk:=(rfl)
@[simp ↓] theorem apX{kk:KK}{m k v:X}:jc T (.mapUpd kk m k v) dst s K=oA (gW s.env.get s.H s.H.l (.mapUpd kk m k v)) (kp s dst K) .mk:=(rfl)
@[simp ↓] theorem aqK{kk:KK}{m k v:X}:kb T (.mapUpd kk m k v) dst s Q=oA (gW s.env.get s.H s.H.l (.mapUpd kk m k v)) (kt s dst (gT s.env.get s.H (.mapUpd kk m k v)) Q) .mk:=(rfl)
@[simp ↓] theorem apL{x:X}{i:Nat}:jc T (.ext x i) dst s K=oA (gW s.env.get s.H s.H.l (.ext x i)) (kp s dst K) .mk:=(rfl)
@[simp ↓] theorem aqz{x:X}{i:Nat}:kb T (.ext x i) dst s Q=oA (gW s.env.get s.H s.H.l (.ext x i)) (kt s dst (gT s.env.get s.H (.ext x i)) Q) .mk:=(rfl)
@[simp ↓] theorem apB{f:b4}{args:List X}:jc T (.call f args) dst s K=gy T f (args.map (ev s.env.get)) dst s K .mk:=(rfl)
@[simp ↓] theorem aqt{f:b4}{args:List X}:kb T (.call f args) dst s Q=iZ T f (args.map (ev s.env.get)) (gT s.env.get s.H (.call f args)) dst s Q .mk:=(rfl)
@[simp ↓] theorem apC{f:b4}{args:List X}:jc T (.callN f args) dst s K=gy T f (args.map (ev s.env.get)) dst s K .mk:=(rfl)
@[simp ↓] theorem aqu{f:b4}{args:List X}:kb T (.callN f args) dst s Q=pK T f (args.map (ev s.env.get)) (gT s.env.get s.H (.callN f args)) dst s Q .mk:=(rfl)
@[simp ↓] theorem apD{f:X}{args:List X}:jc T (.callv f args) dst s K=wS T (ev s.env.get f) (args.map (ev s.env.get)) dst s K .mk:=(rfl)
@[simp] theorem aph{k:b4}{first cap args:List D}:wS T (.fn (.func k) first cap) args dst s K .mk=gy T k (first++args++cap) dst s K .mk:=by show oA (aE (k,first++args++cap)) (λp=>gy T p.1 p.2 dst s K .mk) .mk=_;simp only[Ay]
@[simp] theorem api{v:Nat}{args:List D}:wS T (.iQ v) args dst s K .mk=q' T v args dst s K .mk:=(rfl)
@[simp ↓] theorem aqv{f:X}{args:List X}:kb T (.callv f args) dst s Q=oA (kC s.env.get (.callv f args)) (λp=>iZ T p.1 p.2 (gT s.env.get s.H (.callv f args)) dst s Q .mk) .mk:=(rfl)
@[simp ↓] theorem apu{t sz bytes:Nat}{x y:X}:jc T (.app t sz bytes x y) dst s K=oA (gW s.env.get s.H s.H.l (.app t sz bytes x y)) (kp s dst K) .mk:=(rfl)
@[simp ↓] theorem aqn{t sz bytes:Nat}{x y:X}:kb T (.app t sz bytes x y) dst s Q=oA (gW s.env.get s.H s.H.l (.app t sz bytes x y)) (kt s dst (gT s.env.get s.H (.app t sz bytes x y)) Q) .mk:=(rfl)
@[simp ↓] theorem apH{sz:Nat}{x y:X}:jc T (.copy sz x y) dst s K=oA (gW s.env.get s.H s.H.l (.copy sz x y)) (kp s dst K) .mk:=(rfl)
@[simp ↓] theorem aqx{sz:Nat}{x y:X}:kb T (.copy sz x y) dst s Q=oA (gW s.env.get s.H s.H.l (.copy sz x y)) (kt s dst (gT s.env.get s.H (.copy sz x y)) Q) .mk:=(rfl)
@[simp ↓] theorem apU{k:A0}{x:X}:jc T (.len k x) dst s K=oA (gW s.env.get s.H s.H.l (.len k x)) (kp s dst K) .mk:=(rfl)
@[simp ↓] theorem aqI{k:A0}{x:X}:kb T (.len k x) dst s Q=oA (gW s.env.get s.H s.H.l (.len k x)) (kt s dst (gT s.env.get s.H (.len k x)) Q) .mk:=(rfl)
@[simp ↓] theorem apY{a:Bool}{xs:List X}:jc T (.minmax a xs) dst s K=oA (gW s.env.get s.H s.H.l (.minmax a xs)) (kp s dst K) .mk:=(rfl)
@[simp ↓] theorem aqL{a:Bool}{xs:List X}:kb T (.minmax a xs) dst s Q=oA (gW s.env.get s.H s.H.l (.minmax a xs)) (kt s dst (gT s.env.get s.H (.minmax a xs)) Q) .mk:=(rfl)
@[simp ↓] theorem ap5{neg:Bool}{x:X}:jc T (.nilS neg x) dst s K=oA (mH s.env.get s.H s.H.l (.nilS neg x)) (kp s dst K) .mk:=(rfl)
@[simp ↓] theorem apE{x:X}:jc T (.capE x) dst s K=oA (mH s.env.get s.H s.H.l (.capE x)) (kp s dst K) .mk:=(rfl)
@[simp ↓] theorem apv{t sz bytes:Nat}{z:List D}{x n:X}:jc T (.appZ t sz bytes z x n) dst s K=oA (mH s.env.get s.H s.H.l (.appZ t sz bytes z x n)) (kp s dst K) .mk:=(rfl)
@[simp ↓] theorem apF{sz:Nat}{z:List D}{x:X}:jc T (.clr sz z x) dst s K=oA (mH s.env.get s.H s.H.l (.clr sz z x)) (kp s dst K) .mk:=(rfl)
@[simp ↓] theorem ap9{x:X}:jc T (.rangeS x) dst s K=oA (mH s.env.get s.H s.H.l (.rangeS x)) (kp s dst K) .mk:=(rfl)
@[simp ↓] theorem ap4{x:X}:jc T (.nextS x) dst s K=oA (mH s.env.get s.H s.H.l (.nextS x)) (kp s dst K) .mk:=(rfl)
@[simp ↓] theorem ap8{x:X}:jc T (.rangeM x) dst s K=oA (mH s.env.get s.H s.H.l (.rangeM x)) (kp s dst K) .mk:=(rfl)
@[simp ↓] theorem ap3{x:X}:jc T (.nextM x) dst s K=uC (ev s.env.get x) dst s K .mk:=(rfl)
@[simp ↓] theorem apW{kk:KK}{z:D}{m k:X}:jc T (.mapEnt kk z m k) dst s K=oA (mH s.env.get s.H s.H.l (.mapEnt kk z m k)) (kp s dst K) .mk:=(rfl)
@[simp ↓] theorem apI{m k x:X}:jc T (.entSt m k x) dst s K=oA (mH s.env.get s.H s.H.l (.entSt m k x)) (kp s dst K) .mk:=(rfl)
@[simp ↓] theorem apJ{x:X}:jc T (.entry x) dst s K=oA (mH s.env.get s.H s.H.l (.entry x)) (kp s dst K) .mk:=(rfl)
end
end
def wj(n:Nat)(live keys:List Nat)(J:Env->gd->List Nat->Bool->Prop)(K:jb):jb:=λo=>match o with
 | .norm s=>J (forget keys (cut n live s).env) (cut n live s).H (cut n live s).marks (cut n live s).iG
 | o=>K o
@[simp ↓] theorem Zv{n:Nat}{live keys:List Nat}{J:Env->gd->List Nat->Bool->Prop}{K:jb}{s:St}:wj n live keys J K (.norm s)=J (forget keys (cut n live s).env) (cut n live s).H (cut n live s).marks (cut n live s).iG:=(rfl)
@[simp ↓] theorem avQ{n:Nat}{live keys:List Nat}{J:Env->gd->List Nat->Bool->Prop}{K:jb}{id:Nat}{s:St}:wj n live keys J K (.exit id s)=K (.exit id s):=(rfl)
@[simp ↓] theorem avS{n:Nat}{live keys:List Nat}{J:Env->gd->List Nat->Bool->Prop}{K:jb}{s:St}:wj n live keys J K (.ret s)=K (.ret s):=(rfl)
theorem gx.i{T:iF}{live:List Nat}{a:IR}{s:St}{K:jb}{α:Type}(keys:List Nat)(j:(keys.all λk=>live.contains k)=cp)(E:α->Env)(f:α->gd)(P:α->Prop)(c:α->Nat)(d:α)
  (h0:P d) (p:forget keys s.env=E d) (n:s.H=f d)
  (h:∀x,P x->XC T a { env:=E x,H:=f x,marks:=s.marks,iG:=s.iG } (wj s.H.l live keys (λe H m r=>∃b,e=E b/\H=f b/\m=s.marks/\r=s.iG/\c b<c x/\P b) K)):gx T live a s K .mk:=by
 refine Wc.loop (λm g=>∃x,P x/\m=c x/\({ g with env:=forget keys g.env }:St) = { env:=E x,H:=f x,marks:=s.marks,iG:=s.iG }) (c d) ⟨d,h0,rfl,?_⟩ ?_
 .dsimp only;rw[WR j,p];rw[<-n]
 .rintro m g ⟨x,hP,rfl,l⟩;refine Ev.DM keys ?_;rw[l];refine(XC.wc (h x hP)).mono λo i=>?_
  cases o with
  | norm v=>
   obtain⟨b,t,z,y,w,u,h1⟩:=i;refine⟨c b,u,b,h1,rfl,?_⟩;rw[t];generalize cut s.H.l live v=q at *;cases q;simp_all
  | exit=>exact i
  | ret=>exact i
def gx.j{T:iF}{live:List Nat}{a:IR}{s:St}{K:jb}{α:Type}(b:α)(E:α->Env)(d:α->gd)(P:α->Prop)(f:α->Nat)
  (h0:P b) (j:forget ((E b).map (·.1)) s.env=E b) (i:s.H=d b) (g:(((E b).map (·.1)).all λk=>live.contains k)=cp)
  (h:∀x,P x->XC T a { env:=E x,H:=d x,marks:=s.marks,iG:=s.iG } (wj s.H.l live ((E b).map (·.1)) (λe H m r=>∃c,e=E c/\H=d c/\m=s.marks/\r=s.iG/\f c<f x/\P c) K)):gx T live a s K .mk:=
 gx.i ((E b).map (·.1)) g E d P f b h0 j i h
@[simp] theorem s5{n:Nat}{live:List Nat}{env:Env}{H:gd}{m:List Nat}{r:Bool}(h:H.l<=n):cut n live { env:=env,H:=H,marks:=m,iG:=r } = { env:=forget live env,H:=H,marks:=m,iG:=r }:=VC h
def Is(x:D):D->gd->Prop:=λd Hn=>d=x/\Hn = []
@[simp] theorem aoR(x d:D)(H:gd):Is x d H=(d=x/\H = []):=rfl
@[simp] theorem axx(x:Bool)(a b:D):Cr (.b x) a b=aE (cond x a b):=by cases x<;>rfl
@[simp] theorem awI(c:Bool)(a b d e:D)(P:D->Prop):oA (Cr (bif c then a else b) d e) P .mk=X2 c (oA (Cr a d e) P .mk) (oA (Cr b d e) P .mk) .mk:=by cases c<;>simp
@[simp] theorem Zm{n:Nat}{H:gd}{d:D}(h:H.l<=n)(own:Nat):leave own n H d=(d,H):=by unfold leave;rw[if_pos (.inl h)]
@[simp] theorem avp{n:Nat}{H:gd}{d:D}:leave 4 n H d=(d,H):=by unfold leave;rw[if_pos (.inr rfl)]
section
variable{P:D->Prop}{a b:Int}
@[simp] theorem awr:oA (kc .add .i64 a b) P .mk=(nX (a+b)/\P (.i (a+b))):=by simp only[kc,if_true];rw[Cn,Ay]
@[simp] theorem awN:oA (kc .sub .i64 a b) P .mk=(nX (a-b)/\P (.i (a-b))):=by simp only[kc,if_true];rw[Cn,Ay]
@[simp] theorem awH:oA (kc .mul .i64 a b) P .mk=(nX (a*b)/\P (.i (a*b))):=by simp only[kc,if_true];rw[Cn,Ay]
end
def u0(a b:Int):Int:=IntKind.i64.wrap (a.tdiv b)
def gG(a b:Int):Int:=a.tmod b
def n5{n:Int}(h:nX n):IntKind.i64.wrap n=n:=by unfold nX at h;simp only[IntKind.wrap,IntKind.bits,IntKind.signed];simp;omega
def u4{a b:Int}(h0:0<=a)(h1:a<=9223372036854775807)(c:0<b):u0 a b=a / b:=by unfold u0;rw[Int.tdiv_eq_ediv_of_nonneg h0,n5];have e:0<=a / b:=Int.ediv_nonneg h0 U;have d:a / b<=a:=Int.ediv_le_self b h0;exact iM
def jM{a b:Int}(h0:0<=a):gG a b=a % b:=Int.tmod_eq_emod_of_nonneg h0
section
variable{P:D->Prop}{a b:Int}{t:Tag P}
@[simp] theorem awJ:oA (kc .quo .i64 a b) P t=(b≠0/\P (.i (u0 a b))):=by
 cases t;simp only[kc]
 by_cases h:b=0<;>simp[h,u0]
@[simp] theorem awL:oA (kc .rem .i64 a b) P t=(b≠0/\P (.i (gG a b))):=by
 cases t;simp only[kc]
 by_cases h:b=0<;>simp[h,gG]
end
@[simp] theorem auB(n:Int):nX n=(-9223372036854775808<=n/\n<=9223372036854775807):=rfl
def gt{α:Type}[Inhabited α](l:List α)(n:Int):α:=l.getD n.n default
def gF{α:Type}[Inhabited α]{l:List α}{n:Int}(h0:0<=n)(h:n<l.l):gt l n∈l:=by unfold gt;rw[bs,bb U,aZ];exact bP _
def iX{α:Type}[Inhabited α]{l:List α}{n:Int}(h0:0<=n)(h:n<l.l):gt l n=l[n.n]:=by unfold gt;rw[bs,bb U,aZ]
def Bv{α:Type}[Inhabited α]{l:List α}{n:Nat}(h:n<l.l):gt l n=l[n]:=iX U U
def jt{α:Type}[Inhabited α]{l:List α}{n:Int}(h0:0<=n)(h:n<l.l):l.take (n+1).n=l.take n.n ++ [gt l n]:=by rw[iX h0 h,<-List.take_succ_eq_append_getElem U];congr 1;omega
def oe{α:Type}[Inhabited α]{l:List α}{n:Int}(h0:0<=n)(h:n<l.l):l.drop n.n=gt l n::l.drop (n.n+1):=by rw[iX h0 h];exact bH U
def yM{α:Type}[Inhabited α]{l:List α}{x:α}:x∈l↔∃n:Int,0<=n/\n<l.l/\gt l n=x:=by
 constructor
 .intro h;obtain⟨i,hi,e⟩:=List.getElem_of_mem h;exact⟨i,U,U,by rw[Bv hi,e]⟩
 .rintro⟨n,h0,h1,rfl⟩;exact gF h0 h1
def lC{α:Type}{l:List α}{n:Int}(h:(l.l:Int)<=n):l.take n.n=l:=af U
section
variable{α:Type}[Inhabited α]{sz:Nat}{f:α->List D}{P:D->Prop}{k:cc}
theorem yP{l:List α}{n:Int}:oA (mC sz (.sl sz (l.map f)) (.val (.int k n))) P .mk=((0<=n/\n<l.l)/\P (.gC (f (gt l n)))):=by
 simp only[mC,ep,true_and,Cn,Ay];refine propext ⟨λ⟨h,a⟩=>⟨h,?_⟩,λ⟨h,a⟩=>⟨h,?_⟩⟩
 .rw[bs,ax,bb U,aH,aZ]at a;unfold gt;rw[bs,bb U,aZ];exact a
 .rw[bs,ax,bb U,aH,aZ];unfold gt at a;rw[bs,bb U,aZ]at a;exact a
@[simp] theorem awx{l:List α}{n:Int}:oA (mC sz (.sl sz (l.map f)) (.val (.int k n))) P .mk=((0<=n/\n<l.l)/\P (.gC (f (gt l n)))):=yP
@[simp] theorem aww{l:List Int}{n:Int}:oA (mC 1 (dI l) (.val (.int k n))) P .mk=((0<=n/\n<l.l)/\P (.gC [.i (gt l n)])):=by unfold dI;rw[yP,DH]
@[simp] theorem awC{l:List Pos}{n:Int}:oA (mC 5 (gP l) (.val (.int k n))) P .mk=((0<=n/\n<l.l)/\P (.gC (gt l n).cells)):=yP
@[simp] theorem awB{l:List gg}{n:Int}:oA (mC 2 (iw l) (.val (.int k n))) P .mk=((0<=n/\n<l.l)/\P (.gC [.i (gt l n).1,.i (gt l n).2])):=by unfold iw;rw[yP,DJ]
@[simp] theorem awz{l:List α}{n:Int}:oA (mC sz (dN sz f l) (.val (.int k n))) P .mk=((0<=n/\n<l.l)/\P (.gC (f (gt l n)))):=by
 cases l with
 | nil=>
  simp only[dN,mC,ZX,cW];refine propext ⟨λh=>h.elim,λ⟨h,_⟩=>?_⟩;have:=h.1;have:=h.2;simp at this;omega
 | cons a l=>exact yP
end
def I0(H:gd)(k:Nat)(ρ:Nat->Option Nat)(v g sz off n:Nat):Option Nat->D
 | some v'=>.gf v' g sz off n
 | none=>match rowAt H v g with
  | some (_,cs)=>if (off+n)*sz<=cs.l then .sl sz (chunks sz n ((cs.drop (off*sz)).map (gw ρ H k)))else .any
  | none=>.any
@[simp] theorem TH(ρ:Nat->Option Nat)(H:gd)(k v g sz off n:Nat):gw ρ H (k+1) (.gf v g sz off n)=I0 H k ρ v g sz off n (ρ v):=by rw[gw,if_neg (by simp[closed])];unfold I0;rfl
@[simp] theorem anJ(H:gd)(k:Nat)(ρ:Nat->Option Nat)(v g sz off n v':Nat):I0 H k ρ v g sz off n (aE v') = .gf v' g sz off n:=rfl
def I1(H:gd)(k:Nat)(ρ:Nat->Option Nat)(v g off:Nat):Option Nat->D
 | some v'=>.ptr v' g off
 | none=>match rowAt H v g with
  | some (_,cs)=>.gC ((cs.drop off).map (gw ρ H k))
  | none=>.any
@[simp] theorem anO(ρ:Nat->Option Nat)(H:gd)(k v g off:Nat):gw ρ H (k+1) (.ptr v g off)=I1 H k ρ v g off (ρ v):=by rw[gw,if_neg (by simp[closed])];unfold I1;rfl
@[simp] theorem anK(H:gd)(k:Nat)(ρ:Nat->Option Nat)(v g off v':Nat):I1 H k ρ v g off (aE v') = .ptr v' g off:=rfl
def O8:Option Nat->D
 | some v'=>.gH v'
 | none=>.any
@[simp] theorem anN(ρ:Nat->Option Nat)(H:gd)(k v:Nat):gw ρ H (k+1) (.gH v)=O8 (ρ v):=by rw[gw,if_neg (by simp[closed])];unfold O8;rfl
@[simp] theorem anI(v:Nat):O8 (aE v) = .gH v:=rfl
@[simp] theorem ayd:O8 di = .any:=rfl
@[simp] theorem ayn{ρ:Nat->Option Nat}{H:gd}{k:Nat}{d:D}(h:closed d=cp):gw ρ H k d=d:=p7 h
@[simp] theorem Vk(cs:List D):closed (.agg cs)=gK cs:=by simp only[closed]
@[simp] theorem atb(cs:List D):closed (.tup cs)=gK cs:=by simp only[closed]
@[simp] theorem as7(cs:List D):closed (.gC cs)=gK cs:=by simp only[closed]
@[simp] theorem atc(v:ek):closed (.val v)=true:=by simp only[closed]
@[simp] theorem asQ:closed .any=true:=by simp only[closed]
@[simp] theorem as6:closed .gi=true:=by simp only[closed]
@[simp] theorem Vm(f:Fn)(a b:List D):closed (.fn f a b)=(gK a&&gK b):=by simp only[closed]
@[simp] theorem as9(v g sz off n:Nat):closed (.gf v g sz off n)=false:=by simp only[closed]
@[simp] theorem ata(v g o:Nat):closed (.ptr v g o)=false:=by simp only[closed]
@[simp] theorem atd(v:Nat):closed (.iQ v)=false:=by simp only[closed]
theorem Ci{ρ:Nat->Option Nat}{H:gd}{k:Nat}{cs:List D}(h:gK cs=cp):cs.map (gw ρ H k)=cs:=by
 conv=>rhs;rw[<-aY cs]
 exact au λd a=>p7 (lP h d a)
@[simp] theorem anM(ρ:Nat->Option Nat)(H:gd)(k:Nat)(cs:List D):gw ρ H (k+1) (.agg cs) = .agg (cs.map (gw ρ H k)):=by
 by_cases h:closed (.agg cs)=cp
 .rw[p7 h,Ci (by simpa using h)]
 .rw[gw,if_neg h]
@[simp] theorem anP(ρ:Nat->Option Nat)(H:gd)(k:Nat)(cs:List D):gw ρ H (k+1) (.tup cs) = .tup (cs.map (gw ρ H k)):=by
 by_cases h:closed (.tup cs)=cp
 .rw[p7 h,Ci (by simpa using h)]
 .rw[gw,if_neg h]
@[simp] theorem ayo(ρ:Nat->Option Nat)(H:gd)(k:Nat)(c:Bool)(a b:D):gw ρ H k (bif c then a else b)=bif c then gw ρ H k a else gw ρ H k b:=by cases c<;>rfl
theorem Pa{ρ:Nat->Option Nat}{H:gd}{k:Nat}{cs:List D}(h:gK cs=cp):cs.map (gw ρ H (k+1))=cs:=by
 conv=>rhs;rw[<-aY cs]
 exact au λd a=>p7 (lP h d a)
theorem PY{α:Type}{sz:Nat}{f:α->List D}(b:∀a,(f a).l=sz):∀l:List α,chunks sz l.l (l.map f).flatten=l.map f
 | []=>rfl
 | a::l=>by simp only[aI,chunks,ez,a7];rw[aW (by rw[b];exact eh _),af (by rw[b];exact eh _),eG (by rw[b];exact eh _),bA (by rw[b];exact eh _),bI,PY b l]
def ahf{α:Type}{sz:Nat}{f:α->List D}(c:∀a,(f a).l=sz)(l:List α):(l.map f).flatten.l=l.l*sz:=by
 induction l with
 | nil=>simp
 | cons a l b=>simp only[ez,a7,aq,c,b,aI,cH];omega
def MI{a b:List D}:gK (a++b)=(gK a&&gK b):=by
 induction a with
 | nil=>rfl
 | cons d a c=>simp only[cE,gK,c,Bool.and_assoc]
def acL{α:Type}{f:α->List D}(c:∀a,gK (f a)=cp)(l:List α):gK (l.map f).flatten=true:=by
 induction l with
 | nil=>rfl
 | cons a l b=>simp only[ez,a7,MI,c,b];rfl
class Fl {α:Type} (f:α->List D) (sz:outParam Nat):Prop where
 len:∀a,(f a).l=sz
 cl:∀a,gK (f a)=cp
instance:Fl f1 1:=⟨λ_=>fZ,λ_=>by simp[gK]⟩
instance:Fl fB 1:=⟨λ_=>fZ,λ_=>by simp[gK]⟩
instance:Fl fS 2:=⟨λ_=>fZ,λ_=>by simp[gK]⟩
instance:Fl fP 1:=⟨λ_=>fZ,λ_=>by simp[gK]⟩
instance:Fl fI 1:=⟨λ_=>fZ,λ_=>by simp[gK]⟩
instance:Fl Pos.cells 5:=⟨λ_=>rfl,λ_=>fZ⟩
instance:Fl Kind.cells 3:=⟨λ_=>rfl,λ_=>fZ⟩
instance:Fl Clause.cells 4:=⟨λ_=>rfl,λ_=>fZ⟩
section
variable{α:Type}{f:α->List D}{sz:Nat}
@[simp] theorem acE:cl f [] = []:=by rw[oV];rfl
@[simp] theorem Ba(a b:List α):cl f a++cl f b=cl f (a++b):=by simp[oV]
theorem qc(l:List α)(a:α):cl f l++f a=cl f (l ++ [a]):=by simp[oV]
theorem nb(l:List α)(a:α):cl f (a::l)=f a++cl f l:=by simp[oV]
variable [F:Fl f sz]
include F
@[simp] theorem sZ(l:List α):(cl f l).l=l.l*sz:=by rw[oV];exact ahf F.len l
theorem xX:∀(l:List α) (n:Nat),(cl f l).take (n*sz)=cl f (l.take n)
 | [],n=>fZ
 | a::l,0=>fZ
 | a::l,n+1=>by rw[nb,List.take_succ_cons,nb,<-xX l n,cH,List.take_append,F.len,af (by rw[F.len];omega)];congr 2;omega
theorem uH:∀(l:List α) (n:Nat),(cl f l).drop (n*sz)=cl f (l.drop n)
 | [],n=>fZ
 | a::l,0=>fZ
 | a::l,n+1=>by rw[nb,List.drop_succ_cons,<-uH l n,cH,fm,F.len,bA (by rw[F.len];omega),bI];congr 1;omega
@[simp] theorem asL(l:List α):(cl f l).take (l.l*sz)=cl f l:=by rw[xX,db]
@[simp] theorem sw(l:List α):gK (cl f l)=true:=by rw[oV];exact acL F.cl l
@[simp] theorem asJ{ρ:Nat->Option Nat}{H:gd}(l:List α):(cl f l).map (gw ρ H 40)=cl f l:=Pa (sw l)
@[simp] theorem xZ{k:Nat}(l:List α):closed (.sl k (l.map f))=true:=by simp only[closed];exact Dz F.cl l
theorem Vf(l:List α)(n j:Nat)(c:j<sz):(cl f l)[n*sz+j]? = (l[n]?).bind λa=>(f a)[j]? := by
 have h:(cl f l)[n*sz+j]? = ((cl f l).drop (n*sz))[j]? := by rw[aK]
 rw[h,uH]
 by_cases b:n<l.l
 .rw[bH b,nb,ah (by rw[F.len];exact c),bb b];rfl
 .have d:l[n]? = none:=cy (fo b);rw[bA (fo b),d];simp
theorem acF(l:List α)(n:Nat)(a:α)(h:n<l.l):(cl f l).take (n*sz)++f a++(cl f l).drop (n*sz+sz)=cl f (l.take n++a::l.drop (n+1)):=by rw[xX,<-cH,uH,<-Ba,nb,aL]
end
@[simp] theorem asv(l:List Int)(n:Nat):(cl f1 l).take n=cl f1 (l.take n):=by simpa using xX (f:=f1) l n
@[simp] theorem ast(l:List Int)(n:Nat):(cl f1 l).drop n=cl f1 (l.drop n):=by simpa using uH (f:=f1) l n
@[simp] theorem asu(l:List Int)(n:Int):cl f1 l ++ [.i n]=cl f1 (l ++ [n]):=by rw[<-qc,DH]
@[simp] theorem asy(l:List (List Int))(x:List Int):cl fI l ++ [dI x]=cl fI (l ++ [x]):=by rw[<-qc,ae6]
@[simp] theorem asC(l:List (List gg))(x:List gg):cl fP l ++ [iw x]=cl fP (l ++ [x]):=by rw[<-qc,ae7]
@[simp] theorem asE(l:List gg)(a b:Int):cl fS l ++ [.i a,.i b]=cl fS (l ++ [(a,b)]):=by rw[<-qc,DJ]
@[simp] theorem asD(l:List Pos)(a b c:List Int)(r q:Int):cl Pos.cells l ++ [dI a,dI b,dI c,.i r,.i q]=cl Pos.cells (l ++ [⟨a,b,c,r,q⟩]):=by rw[<-qc];rfl
@[simp] theorem axy(p:Pos):Pos.mk p.cs p.h0 p.h1 p.gO p.side=p:=rfl
@[simp] theorem aws{l:List Int}{n:Int}{P:D->Prop}:oA (cl f1 l)[n.n]? P .mk=(n.n<l.l/\P (.i (gt l n))):=by
 have h:=Vf (f:=f1) l n.n 0 U;simp only[eT,cA]at h;rw[h]
 by_cases a:n.n<l.l
 .rw[bb a];have e:gt l n=l[n.n]:=by unfold gt;rw[bs,bb a];rfl
  simp[a,e]
 .rw[cy U];simp[a]
@[simp] theorem ahU{α:Type}[Inhabited α]{f:α->List D}{sz:Nat}[F:Fl f sz]{l:List α}{t:dr}{n:Int}{P:D->Prop}(b:0<sz):oA (uX sz (n.n*sz) (aE (t,cl f l))) P .mk=(n.n<l.l/\P (.agg (f (gt l n)))):=by
 simp only[uX,sZ,<-cH];rw[Cn,Ay];have h:n.n.succ*sz<=l.l*sz↔n.n<l.l:=fq b;rw[h];refine propext ⟨λ⟨a,p⟩=>⟨a,?_⟩,λ⟨a,p⟩=>⟨a,?_⟩⟩
 .have e:gt l n=l[n.n]:=by unfold gt;rw[bs,bb a];rfl
  rw[uH,bH a,nb,aW (by rw[F.len];exact eh _),af (by rw[F.len];exact eh _),<-e]at p;exact p
 .have e:gt l n=l[n.n]:=by unfold gt;rw[bs,bb a];rfl
  rw[uH,bH a,nb,aW (by rw[F.len];exact eh _),af (by rw[F.len];exact eh _),<-e];exact p
def mT(ρ:Nat->Option Nat)(H:gd)(k sz off n:Nat):Option (dr×List D)->D
 | some (_,cs)=>if (off+n)*sz<=cs.l then .sl sz (chunks sz n ((cs.drop (off*sz)).map (gw ρ H k)))else .any
 | none=>.any
@[simp] theorem aaZ(H:gd)(k:Nat)(ρ:Nat->Option Nat)(v g sz off n:Nat):I0 H k ρ v g sz off n di=mT ρ H k sz off n (rowAt H v g):=by unfold I0 mT;rfl
@[simp] theorem vx{α:Type}{f:α->List D}{sz:Nat}[F:Fl f sz]{ρ:Nat->Option Nat}{H:gd}{k n:Nat}{t:dr}{l:List α}(h:n=l.l):mT ρ H (k+1) sz 0 n (aE (t,cl f l)) = .sl sz (l.map f):=by subst h;unfold mT;dsimp only;rw[sZ,if_pos fZ,cS,eR,Pa (sw l),oV,PY F.len]
@[simp] theorem atW{ρ:Nat->Option Nat}{H:gd}{k sz:Nat}{p:dr×List D}:mT ρ H k sz 0 0 (aE p) = .sl sz []:=by unfold mT;simp[chunks]
@[simp] theorem ayH:D.sl 1 []=dI []:=by unfold dI;rfl
@[simp] theorem ayI:D.sl 2 []=iw []:=by unfold iw;rfl
@[simp] theorem atY{ρ:Nat->Option Nat}{H:gd}{k:Nat}{t:dr}{a b c:List Int}{r q:Int}:mT ρ H (k+1) 5 0 1 (aE (t,[dI a,dI b,dI c,.i r,.i q]))=gP [⟨a,b,c,r,q⟩]:=by have h:=vx (f:=Pos.cells) (ρ:=ρ) (H:=H) (k:=k) (t:=t) (l:=[⟨a,b,c,r,q⟩]) (n:=1) rfl;rw[oV]at h;unfold gP;exact h
@[simp] theorem ayM(l:List Int):D.sl 1 (l.map f1)=dI l:=by unfold dI;rfl
@[simp] theorem ayP(l:List Pos):D.sl 5 (l.map Pos.cells)=gP l:=by unfold gP;rfl
@[simp] theorem ayO(l:List gg):D.sl 2 (l.map fS)=iw l:=by unfold iw;rfl
def u7(ρ:Nat->Option Nat)(H:gd):Option Ob->Ob
 | some o=>pI ρ H o
 | none=>.dead
@[simp] theorem aym(ρ:Nat->Option Nat)(H:gd)(t g:Nat)(cs:List D):u7 ρ H (aE (.row t g cs)) = .row t g (cs.map (gw ρ H 40)):=rfl
@[simp] theorem ayj(ρ:Nat->Option Nat)(H:gd)(kk:KK)(es:List (ek×D)):u7 ρ H (aE (.map kk es)) = .map kk (es.map λx=>(x.1,gw ρ H 40 x.2)):=rfl
@[simp] theorem ayh(ρ:Nat->Option Nat)(H:gd):u7 ρ H (aE .dead) = .dead:=rfl
@[simp] theorem ayi(ρ:Nat->Option Nat)(H:gd):u7 ρ H (aE .jH) = .jH:=rfl
@[simp] theorem ayl(ρ:Nat->Option Nat)(H:gd)(rf:Nat)(e:Env)(st:qz):u7 ρ H (aE (.iu rf e st)) = .iu rf (e.map λx=>(x.1,gw ρ H 40 x.2)) st:=rfl
@[simp] theorem awe:Cm []=false:=(rfl)
@[simp] theorem awd(k:Nat)(l:List Nat):Cm (k::l)=decide (k=9999):=by
 show eB k 9999=_
 cases a:eB k 9999 with
 | true=>exact(decide_eq_true (cu a)).symm
 | false=>exact(decide_eq_false (Nat.ne_of_beq_eq_false a)).symm
@[simp] theorem P6{n:Nat}{l:List Nat}{s:St}:cut n (9999::l) s = { s with env:=forget (9999::l) s.env }:=by unfold cut;dsimp only;rw[if_pos (.inr rfl)]
def P7(env:Env)(H:gd)(m:List Nat)(r:Bool)(ks:nJ):St:={ env:=env.map λp=>(p.1,gw (iR ks) H 40 p.2),H:=ks.map λp=>if p.2 then u7 (iR ks) H H[p.1]? else .dead,marks:=m.map λv=>(iR ks v).getD v,iG:=r }
def Tn(n:Nat)(env:Env)(H:gd)(m:List Nat):List Nat:=dedup (((env.map λp=>jB n p.2).flatten++((H.take n).map (o9 n)).flatten++m.filter (n<=·)).filter (· < H.l))
@[simp low] theorem uK{n:Nat}{live:List Nat}{env:Env}{H:gd}{m:List Nat}{r:Bool}(h:¬H.l<=n)(a:Cm live=dx):cut n live { env:=env,H:=H,marks:=m,iG:=r }=P7 (forget live env) H m r (jn n (Tn n (forget live env) H m)):=by unfold cut P7 Tn;dsimp only;rw[if_neg (by rw[a];simpa using h)];rfl
@[simp] theorem auF(K:List Nat):jn 0 K=K.map λv=>(v,cp):=rfl
@[simp] theorem auG(K:List Nat):jn 1 K=(0,cp)::K.map λv=>(v,cp):=rfl
@[simp] theorem auR(K:List Nat):jn 2 K=(0,cp)::(1,cp)::K.map λv=>(v,cp):=rfl
@[simp] theorem auW(K:List Nat):jn 3 K=(0,cp)::(1,cp)::(2,cp)::K.map λv=>(v,cp):=rfl
@[simp] theorem auX(K:List Nat):jn 4 K=(0,cp)::(1,cp)::(2,cp)::(3,cp)::K.map λv=>(v,cp):=rfl
def AH(i:Nat):nJ->Nat->Option Nat
 | [],_=>di
 | p::r,v=>if p.2&&p.1 == v then aE i else AH (i+1) r v
def am8(ks:nJ)(v:Nat):iR ks v=AH 0 ks v:=by
 have key:∀(ks:nJ) (i:Nat),AH i ks v=(ks.findIdx? (λp=>p.2&&p.1 == v)).map (· + i):=by
  intro ks
  induction ks with
  | nil=>intro i;rfl
  | cons p r a=>
   intro i;rw[List.findIdx?_cons];unfold AH;split
   .simp
   .rw[a,Option.map_map];congr 1;funext x;simp;omega
 rw[key];simp[iR]
@[simp] theorem ax4(v:Nat):iR [] v=none:=rfl
@[simp] theorem ax3(p:Nat×Bool)(r:nJ)(v:Nat):iR (p::r) v=if (p.2&&p.1 == v)=cp then aE 0 else AH 1 r v:=by rw[am8];rfl
@[simp] theorem ax2(i v:Nat):AH i [] v=none:=rfl
@[simp] theorem ax1(i:Nat)(p:Nat×Bool)(r:nJ)(v:Nat):AH i (p::r) v=if (p.2&&p.1 == v)=cp then aE i else AH (i+1) r v:=rfl
@[simp] theorem ati(env:Env)(H:gd)(m:List Nat)(r:Bool)(ks:nJ):P7 env H m r ks = { env:=env.map λp=>(p.1,gw (iR ks) H 40 p.2),H:=ks.map λp=>if p.2 then u7 (iR ks) H H[p.1]? else .dead,marks:=m.map λv=>(iR ks v).getD v,iG:=r }:=rfl
@[simp] theorem axK(n:Nat)(env:Env)(H:gd)(m:List Nat):Tn n env H m=dedup (((env.map λp=>jB n p.2).flatten++((H.take n).map (o9 n)).flatten++m.filter (n<=·)).filter (· < H.l)):=rfl
@[simp] theorem atk:dedup [] = []:=rfl
@[simp] theorem atj(x:Nat)(r:List Nat):dedup (x::r)=if x∈r then dedup r else x::dedup r:=rfl
theorem Pt(n:Nat){d:D}(h:closed d=cp):jB n d = []:=by cases d<;>first|rfl|cases h
@[simp] theorem azj(n:Nat)(l:List Int):jB n (dI l) = []:=rfl
@[simp] theorem azo(n:Nat)(l:List Pos):jB n (gP l) = []:=rfl
@[simp] theorem azm(n:Nat)(p:Pos):jB n (dP p) = []:=rfl
@[simp] theorem azn(n:Nat)(l:List gg):jB n (iw l) = []:=rfl
@[simp] theorem azi(n:Nat)(g:gq):jB n (dG g) = []:=rfl
@[simp] theorem azg(n:Nat)(g:gq):jB n g.jU = []:=rfl
@[simp] theorem azk{α:Type}(n sz:Nat)(f:α->List D)(l:List α):jB n (dN sz f l) = []:=by cases l<;>rfl
@[simp] theorem azA(n:Nat)(v:ek):jB n (.val v) = []:=rfl
@[simp] theorem azf(n:Nat):jB n .any = []:=rfl
@[simp] theorem azr(n:Nat):jB n .gi = []:=rfl
@[simp] theorem aze(n:Nat)(cs:List D):jB n (.agg cs) = []:=rfl
@[simp] theorem azz(n:Nat)(cs:List D):jB n (.tup cs) = []:=rfl
@[simp] theorem azt(n:Nat)(cs:List D):jB n (.gC cs) = []:=rfl
@[simp] theorem azy(n sz:Nat)(es:List (List D)):jB n (.sl sz es) = []:=rfl
@[simp] theorem azs(n:Nat)(f:Fn)(a b:List D):jB n (.fn f a b) = []:=rfl
@[simp] theorem azw(n v g sz off len:Nat):jB n (.gf v g sz off len)=if n<=v then [v]else []:=rfl
@[simp] theorem azx(n v g off:Nat):jB n (.ptr v g off)=if n<=v then [v]else []:=rfl
@[simp] theorem azv(n v:Nat):jB n (.gH v)=if n<=v then [v]else []:=rfl
@[simp] theorem azB(n v:Nat):jB n (.iQ v)=if n<=v then [v]else []:=rfl
theorem amZ(n:Nat){cs:List D}(h:gK cs=cp):(cs.map (jB n)).flatten = []:=by
 induction cs with
 | nil=>rfl
 | cons d r a=>
  simp only[gK,ai]at h;simp[Pt n h.1,a h.2]
@[simp] theorem asI(n:Nat){α:Type}{f:α->List D}{sz:Nat}[F:Fl f sz](l:List α):((cl f l).map (jB n)).flatten = []:=amZ n (sw l)
@[simp] theorem awT(n t g:Nat)(cs:List D):o9 n (.row t g cs)=(cs.map (jB n)).flatten:=rfl
@[simp] theorem awQ(n:Nat)(kk:KK)(es:List (ek×D)):o9 n (.map kk es)=(es.map λx=>jB n x.2).flatten:=rfl
@[simp] theorem awO(n:Nat):o9 n .dead = []:=rfl
theorem Of{H:gd}{d:D}(h:H≠[]):leave 0 0 H d=(gw (λ_=>di) H 40 d,[]):=by unfold leave;rw[if_neg (by rintro(e|e);exact h (aA.1 U);cases e)];rfl
@[simp] theorem avr{o:Ob}{r:gd}{d:D}:leave 0 0 (o::r) d=(gw (λ_=>di) (o::r) 40 d,[]):=Of fZ
attribute [simp] and_assoc Kind.cells Clause.cells dP Pos.cells dG gq.cells gq.jU
def kU(T:iF)(n:Nat)(live:List Nat)(a:IR)(s:St)(K:jb)(_:Tag (live,a,s,K)):Prop:=Ev T (.loop n live (lx a) s) (PO K)
def Oo(T:iF)(n:Nat)(live:List Nat)(a:IR)(K:jb):jb:=λo=>match o with
 | .norm s=>kU T n live a (cut n live s) K .mk
 | o=>K o
def aaL(T:iF)(v rf:Nat)(b:IR)(dst:Option Nat)(s:St)(K:St->Prop):jb:=λo=>match o with
 | .norm s1=>∃a,s1.H[v]? = aE (.iu rf a .ready)/\XC T b { s1 with H:=s1.H.set v (.iu rf a .busy) } (Cv v rf dst s K)
 | _=>False
def q'.r{T:iF}{v rf:Nat}{args:List D}{dst:Option Nat}{s:St}{K:St->Prop}{env0:Env}{Rd:qJ}(e:s.H[v]? = aE (.iu rf env0 .ready))(i:T.round rf=aE Rd)(hl:args.l=Rd.params.l)
  (c b:IR) (g:lx c=Rd.a) (f:lx b=Rd.b)
  (h:XC T c { env:=uq Rd.params args env0,H:=s.H,iG:=cp } (aaL T v rf b dst s K)):q' T v args dst s K .mk:=by
 refine⟨rf,env0,Rd,e,i,hl,?_⟩;rw[<-g];refine(XC.wc h).mono λo a=>?_
 cases o with
 | norm s1=>
  obtain⟨d,h1,j⟩:=a;exact⟨s1,d,rfl,h1,by rw[<-f];exact XC.wc j⟩
 | exit=>exact a.elim
 | ret=>exact a.elim
def anf(rf:Nat)(s:St)(K:jb):D->gd->Prop:=λ_ H'=>∃env st,H'[s.H.l+1]? = aE (.iu rf env st)/\oA (AE { s with H:=H'.set (s.H.l+1) .dead,marks:=s.H.l::s.marks } st) K .mk
def tv.r{T:iF}{rf:Nat}{live:List Nat}{x:X}{s:St}{K:jb}{f:b4}{first cap:List D}{fn:jq}(b:s.iG=dx)(a:ev s.env.get x = .fn (.func f) first cap)(e:T.fn f=aE fn)(c:fn.full=cp)
  (h:Wf T f (first ++ [.iQ (s.H.l+1)]++cap) (s.H ++ [.jH,.iu rf (forget live s.env) .ready]) (anf rf s K)):tv T rf live x s K .mk:=
 Ev.oD b a e c h λd H' ⟨d',H2,g,env,st,h1,o,j,i⟩=>by cases g;exact⟨env,st,o,h1,j,o,rfl,i⟩
section
variable{T:iF}{n:Nat}{live:List Nat}{a:IR}{s:St}{K:jb}{id:Nat}
theorem gx.un(h:kU T s.H.l live a { s with env:=forget live s.env } K .mk):gx T live a s K .mk:=Ev.loop h
theorem kU.u(h:XC T a s (Oo T n live a K)):kU T n live a s K .mk:=by
 refine Ev.Aq (XC.wc h) (λb ⟨o,e,k⟩=>?_) λo ⟨o',e,k⟩ hs=>?_
 .cases e;exact k
 .cases e
  cases o with
  | norm=>cases hs
  | exit=>exact⟨_,rfl,k⟩
  | ret=>exact⟨_,rfl,k⟩
@[simp ↓] theorem avU:Oo T n live a K (.norm s)=kU T n live a (cut n live s) K .mk:=(rfl)
@[simp ↓] theorem avT:Oo T n live a K (.exit id s)=K (.exit id s):=(rfl)
@[simp ↓] theorem avV:Oo T n live a K (.ret s)=K (.ret s):=(rfl)
end
def Xk{x b:Bool}{P Q:Prop}(k:cond b P Q)(h:x=b:=by first|(show _=true;first|assumption|exact decide_eq_true jZ)|(show _=false;first|assumption|exact decide_eq_false jZ)):X2 x P Q .mk:=by subst h;cases x<;>simpa using k
class PB (x:Bool) (I:outParam (Prop->Prop)) (q:outParam Prop):Prop where
 t:∀ {P:Prop},I P->x=cp->P
 f:x=dx->q
instance(priority:=low){x:Bool}:PB x (λP=>x=cp->P) (x=dx):=⟨λh e=>h e,id⟩
instance{p:Prop}[Decidable p]:PB (decide p) (λP=>p->P) (¬p):=⟨λh e=>h (of_decide_eq_true e),of_decide_eq_false⟩
instance{p q:Prop}[Decidable p][Decidable q]:PB (decide p&&decide q) (λP=>p->q->P) (¬(p/\q)):=⟨λh e=>by
 rw[<-cZ]at e
 exact h (of_decide_eq_true e).1 (of_decide_eq_true e).2,λe=>by rw[<-cZ]at e;exact of_decide_eq_false e⟩
instance{p q:Prop}[Decidable p][Decidable q]:PB (decide p||decide q) (λP=>p\/q->P) (¬(p\/q)):=⟨λh e=>by
 rw[<-fJ]at e
 exact h (of_decide_eq_true e),λe=>by rw[<-fJ]at e;exact of_decide_eq_false e⟩
def Xs{x:Bool}{I:Prop->Prop}{q P Q:Prop}[c:PB x I q](h:I P)(k:q->Q):X2 x P Q .mk:=⟨c.t h,λe=>k (c.f e)⟩
def Yc{T:iF}{f:b4}{args:List D}{dst:Option Nat}{s:St}{K:St->Prop}{fn:jq}{x:D}(h:Wf T f args [] λd H'=>d=x/\H' = [])(k:K { s with env:=put s.env dst x })
  (c:T.fn f=aE fn:=by exact rfl) (b:fn.full=false:=by exact rfl) (e:gK args=true:=by simp) (a:closed x=true:=by simp):gy T f args dst s K .mk:=gy.c c b h e a k
def Yt{T:iF}{f:b4}{args:List D}{R:List Fp}{dst:Option Nat}{s:St}{Q:Rc->St->Prop}{fn:jq}{x:D}(h:Wf T f args [] λd H'=>d=x/\H' = [])(k:Q ⟨R,[]⟩ { s with env:=put s.env dst x })
  (c:T.fn f=aE fn:=by exact rfl) (b:fn.full=false:=by exact rfl) (e:gK args=true:=by simp) (a:closed x=true:=by simp):iZ T f args R dst s Q .mk:=iZ.c c b h e a k
def Yr{T:iF}{f:b4}{args nM:List D}{dst:Option Nat}{s:St}{K:St->Prop}{fn:jq}{x:D}(h:Wf T f nM [] λd H'=>d=x/\H' = [])(k:K { s with env:=put s.env dst x })
  (e:T.fn f=aE fn:=by exact rfl) (c:fn.full=false:=by exact rfl) (hs:args.map (gw (λ_=>di) s.H 40)=nM:=by simp) (b:flat x=true:=by simp[flat]) (a:closed x=true:=by simp):gy T f args dst s K .mk:=gy.r e c h hs b a k
def Yg{T:iF}{f:b4}{args:List D}{H:gd}(fn:jq){K:D->gd->Prop}(h:XC T fn.body { env:=ti args,H:=H } (zH fn.results fn.own H.l K))
  (b:T.fn f=aE fn:=by exact rfl) (hl:args.l<=fn.ntmps:=by exact c8 rfl) (a:uf fn.body=true:=by exact rfl):Wf T f args H K:=Wf.x b hl h a
def Yz{T:iF}{f:b4}{args:List D}{H:gd}(fn:jq)(c:IR){K:D->gd->Prop}(h:XC T c { env:=ti args,H:=H } (zH fn.results fn.own H.l K))
  (a:T.fn f=aE fn:=by exact rfl) (hl:args.l<=fn.ntmps:=by exact c8 rfl) (b:lx c=fn.body:=by simp only[AR,AS];exact oT rfl):Wf T f args H K:=Wf.xz fn.own c a hl b h
structure Bx(p:Prop):Prop where
 x:p
def mI{P:Prop}(h:P:=by(with_reducible repeat' first|refine Xk ?_<;>try simp|refine Xs ?_ ?_<;>intro h<;>(try intro a)<;>(try simp[h])<;>try omega|refine Xg ?_|omega)):P:=h
def gh{P Q:Prop}(k:Q)(h:Bx Q->P:=by intro k;(with_reducible repeat' first|refine Xk ?_<;>try simp|refine Xs ?_ ?_<;>intro h<;>(try intro a)<;>(try simp[h])<;>try omega|refine Xg ?_|omega);exact k.x):P:=h ⟨k⟩
def kj{P Q R:Prop}(k:Q)(l:R)(h:Bx Q->Bx R->P:=by intro k l;(with_reducible repeat' first|refine Xk ?_<;>try simp|refine Xs ?_ ?_<;>intro h<;>(try intro a)<;>(try simp[h])<;>try omega|refine Xg ?_|omega);(revert h;exact k.x);(revert h;exact l.x)):P:=h ⟨k⟩ ⟨l⟩
def jT{A P Q:Prop}(a:A)(k:Q)(h:A->Bx Q->P:=by intro a k;(with_reducible repeat' first|refine Xk ?_<;>try simp[a]|refine Xs ?_ ?_<;>intro h<;>(try intro b)<;>(try simp[h,a])<;>try omega|refine Xg ?_|omega);exact k.x):P:=h a ⟨k⟩
def FZ{A P Q R:Prop}(a:A)(k:Q)(l:R)(h:A->Bx Q->Bx R->P:=by intro a k l;(with_reducible repeat' first|refine Xk ?_<;>try simp[a]|refine Xs ?_ ?_<;>intro h<;>(try intro b)<;>(try simp[h,a])<;>try omega|refine Xg ?_|omega);(revert h;exact k.x);(revert h;exact l.x)):P:=h a ⟨k⟩ ⟨l⟩
def kP{A B P Q:Prop}(b:A)(a:B)(k:Q)(h:A->B->Bx Q->P:=by intro b a k;(with_reducible repeat' first|refine Xk ?_<;>try simp[b,a]|refine Xs ?_ ?_<;>intro h<;>(try intro c)<;>(try simp[h,b,a])<;>try omega|refine Xg ?_|omega);exact k.x):P:=h b a ⟨k⟩
def abL{A B C P:Prop}(c:A)(b:B)(a:C)(h:A->B->C->P:=by intro c b a;(with_reducible repeat' first|refine Xk ?_<;>try simp[c,b,a]|refine Xs ?_ ?_<;>intro h<;>(try intro d)<;>(try simp[h,c,b,a])<;>try omega|refine Xg ?_|omega)):P:=h c b a
def nL{A B C P Q:Prop}(c:A)(b:B)(a:C)(k:Q)(h:A->B->C->Bx Q->P:=by intro c b a k;(with_reducible repeat' first|refine Xk ?_<;>try simp[c,b,a]|refine Xs ?_ ?_<;>intro h<;>(try intro d)<;>(try simp[h,c,b,a])<;>try omega|refine Xg ?_|omega);exact k.x):P:=h c b a ⟨k⟩
def abM{A B C P Q R:Prop}(c:A)(b:B)(a:C)(k:Q)(l:R)(h:A->B->C->Bx Q->Bx R->P:=by intro c b a k l;(with_reducible repeat' first|refine Xk ?_<;>try simp[c,b,a]|refine Xs ?_ ?_<;>intro h<;>(try intro d)<;>(try simp[h,c,b,a])<;>try omega|refine Xg ?_|omega);(revert h;exact k.x);(revert h;exact l.x)):P:=h c b a ⟨k⟩ ⟨l⟩
def xQ{A B C D P Q:Prop}(d:A)(c:B)(b:C)(a:D)(k:Q)(h:A->B->C->D->Bx Q->P:=by intro d c b a k;(with_reducible repeat' first|refine Xk ?_<;>try simp[d,c,b,a]|refine Xs ?_ ?_<;>intro h<;>(try intro e)<;>(try simp[h,d,c,b,a])<;>try omega|refine Xg ?_|omega);exact k.x):P:=h d c b a ⟨k⟩
