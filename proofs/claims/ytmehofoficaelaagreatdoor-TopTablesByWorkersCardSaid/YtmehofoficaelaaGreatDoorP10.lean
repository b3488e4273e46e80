/- 10 -/
import Derived.Test.YtmehofoficaelaaGreatDoorP09
set_option linter.all false
open Option renaming some→aE,none→eh,bind_some→ez
open List renaming getElem?_eq_getElem→bf,getD_eq_getElem?_getD→cc,length_map→eK,replicate→eL,map_cons→fa,length→List.l
open Go renaming FuncId→cp,IntKind→di,TypeId→ej,Value→er
open Bool renaming true→dx,false→ek,and_eq_true→eB
open Nat renaming le_refl→ep,beq→fb
open Int renaming toNat→Int.n
namespace Go.AL
open Go
universe u
inductive Tag{α:Sort u}(a:α):Type
 | mk
def oA{α:Type}(x:Option α)(P:α->Prop)(_:Tag P):Prop:=∃a,x=aE a/\P a
@[simp] theorem Cq{α:Type}(a:α)(P:α->Prop):oA (aE a) P .mk=P a:=by simp[oA]
@[simp] theorem adz{α:Type}(P:α->Prop):oA eh P .mk=False:=by simp[oA]
@[simp high] theorem EH{α:Type}{c:Prop}[Decidable c](x:Option α)(P:α->Prop):oA (if c then x else eh) P .mk=(c/\oA x P .mk):=by by_cases h:c<;>simp[h]
@[simp] theorem aB7{α:Type}{c:Prop}[Decidable c](x y:Option α)(P:α->Prop):oA (if c then x else y) P .mk=((c->oA x P .mk)/\(¬c->oA y P .mk)):=by by_cases h:c<;>simp[h]
@[simp] theorem aB8(x:Option D)(P:D×Dl->Prop):oA (lift x) P .mk=oA x (λd=>P (d,.no)) .mk:=by cases x<;>simp[lift]
@[simp] theorem aBV{α b:Type}(x:Option α)(f:α->Option b)(P:b->Prop):oA (x.bind f) P .mk=oA x (λa=>oA (f a) P .mk) .mk:=by cases x<;>simp
def gB:D->Bool->Option Bool
 | .val (.bool b),want=>aE (b == want)
 | .val (.tuple _),_=>aE ek
 | _,_=>eh
@[simp] theorem azz(a:Bool):gB (.val undef) a=aE false:=rfl
@[simp] theorem azy(x:Bool):gB (.b x) dx=aE x:=by cases x<;>rfl
@[simp] theorem azx(x:Bool):gB (.b x) ek=aE (!x):=by cases x<;>rfl
@[simp] theorem azL(f:iM):guardOf f eh=aE true:=rfl
@[simp] theorem azM(f:iM)(j:Nat)(w:Bool):guardOf f (aE (j,w))=gB (f j) w:=by show(match f j with | .val (.bool b)=>aE (b == w) | .val (.tuple _)=>aE ek|_=>eh)=gB (f j) w;unfold gB;split<;>simp_all
@[simp] theorem ayZ(f:iM)(k:Nat):ev f (.t k)=f k:=rfl
@[simp] theorem ayY(f:iM)(d:D):ev f (.c d)=d:=rfl
@[simp] theorem aC4(env:Env)(k:Nat)(d:D):put env (aE k) d=(k,d)::env:=rfl
@[simp] theorem aC3(env:Env)(d:D):put env eh d=env:=rfl
@[simp] theorem awJ(H:gQ)(al:Al):Dl.no.app H al=H:=rfl
@[simp] theorem awI(H:gQ)(al:Al)(ob:Ob):(Dl.new ob).app H al=al.2 ob:=rfl
@[simp] theorem awK(H:gQ)(al:Al)(v:Nat)(ob:Ob):(Dl.obj v ob).app H al=H.set v ob:=rfl
def setCells(H:gQ)(v o:Nat)(xs:List D):Option Ob->gQ
 | some (.row t g cs)=>H.set v (.row t g (cs.take o++xs++cs.drop (o+xs.l)))
 | _=>H
@[simp] theorem awF(H:gQ)(al:Al)(v o:Nat)(xs:List D):(Dl.cells v o xs).app H al=setCells H v o xs H[v]? := by show(match H[v]? with|some (.row t g cs)=>H.set v (.row t g (cs.take o++xs++cs.drop (o+xs.l)))|_=>H)=_;unfold setCells;split<;>simp_all
@[simp] theorem aDC(H:gQ)(v o:Nat)(xs:List D)(t g:Nat)(cs:List D):setCells H v o xs (aE (.row t g cs))=H.set v (.row t g (cs.take o++xs++cs.drop (o+xs.l))):=rfl
def AV(k:di)(a b:Int):Int:=k.wrap (a*2 ^ (min b.n k.bits))
def nV(k:di)(a b:Int):Int:=a.fdiv (2 ^ (min b.n k.bits))
section
variable{k:di}{a b:Int}
@[simp] theorem aw1:mh .add (.val (.int k a)) (.val (.int k b))=kW .add k a b:=by simp[mh,sn]
@[simp] theorem axh:mh .sub (.val (.int k a)) (.val (.int k b))=kW .sub k a b:=by simp[mh,sn]
@[simp] theorem aw9:mh .mul (.val (.int k a)) (.val (.int k b))=kW .mul k a b:=by simp[mh,sn]
@[simp] theorem axc:mh .quo (.val (.int k a)) (.val (.int k b))=kW .quo k a b:=by simp[mh,sn]
@[simp] theorem axd:mh .rem (.val (.int k a)) (.val (.int k b))=kW .rem k a b:=by simp[mh,sn]
@[simp] theorem aw2:mh .and (.val (.int k a)) (.val (.int k b))=aE (.val (.int k (bits .and k a b))):=by simp[mh,sn,kW]
@[simp] theorem axb:mh .or (.val (.int k a)) (.val (.int k b))=aE (.val (.int k (bits .or k a b))):=by simp[mh,sn,kW]
@[simp] theorem axi:mh .xor (.val (.int k a)) (.val (.int k b))=aE (.val (.int k (bits .xor k a b))):=by simp[mh,sn,kW]
@[simp] theorem aw3:mh .andNot (.val (.int k a)) (.val (.int k b))=aE (.val (.int k (bits .andNot k a b))):=by simp[mh,sn,kW]
@[simp] theorem aw4:mh .eql (.val (.int k a)) (.val (.int k b))=aE (.b (decide (a=b))):=by simp[mh,sn,kW,BEq.beq]
@[simp] theorem axa:mh .neq (.val (.int k a)) (.val (.int k b))=aE (.b (!decide (a=b))):=by simp[mh,sn,kW,bne,BEq.beq]
@[simp] theorem aw8:mh .lss (.val (.int k a)) (.val (.int k b))=aE (.b (decide (a<b))):=by simp[mh,sn,kW]
@[simp] theorem aw7:mh .leq (.val (.int k a)) (.val (.int k b))=aE (.b (decide (a<=b))):=by simp[mh,sn,kW]
@[simp] theorem aw6:mh .gtr (.val (.int k a)) (.val (.int k b))=aE (.b (decide (a>b))):=by simp[mh,sn,kW]
@[simp] theorem aw5:mh .geq (.val (.int k a)) (.val (.int k b))=aE (.b (decide (a>=b))):=by simp[mh,sn,kW]
@[simp] theorem axe{k2:di}:mh .shl (.val (.int k a)) (.val (.int k2 b))=if 0<=b then aE (.val (.int k (AV k a b)))else none:=rfl
@[simp] theorem axf{k2:di}:mh .shr (.val (.int k a)) (.val (.int k2 b))=if 0<=b then aE (.val (.int k (nV k a b)))else none:=rfl
@[simp] theorem axg(op:BinOp)(s t:ByteArray):mh op (.val (.string s)) (.val (.string t))=H6 op s t:=rfl
@[simp] theorem aE6(x:Bool):Ia .not (.b x)=aE (.b !x):=rfl
@[simp] theorem aE5(n:Int):Ia .neg (.i n)=if p6 (-n)then aE (.i (-n))else none:=rfl
@[simp] theorem ayL(b:di):PX b (.val (.int k a))=aE (.val (.int b (b.wrap a))):=rfl
end
@[simp] theorem ay5(off v g o:Nat):JB off (.ptr v g o)=aE (.ptr v g (o+off)):=rfl
@[simp] theorem ay4(off:Nat)(cs:List D):JB off (.ie cs)=aE (.ie (cs.drop off)):=rfl
@[simp] theorem ay6(off n:Nat)(cs:List D):Dt off n dx (.agg cs)=if off+n<=cs.l then aE (.agg ((cs.drop off).take n))else none:=rfl
@[simp] theorem ay7(off n:Nat)(cs:List D):Dt off n ek (.agg cs)=cs[off]? := rfl
@[simp] theorem ay0(ds:List D)(i:Nat):Qg (.tup ds) i=ds[i]? := rfl
@[simp] theorem aBF(v g o:Nat):EF (.ptr v g o)=aE (.ptr v g o):=rfl
@[simp] theorem aBE(cs:List D):EF (.ie cs)=aE (.ie cs):=rfl
@[simp] theorem aBD(f:cp)(a b:List D):EF (.fn (.func f) a b)=aE (.fn (.func f) a b):=rfl
@[simp] theorem aBG(v:Nat):EF (.jF v)=aE (.jF v):=rfl
def rowOf(k:Nat):Option Ob->Option (ej×List D)
 | some (.row t g cs)=>if g=k then aE (t,cs)else eh
 | _=>eh
@[simp] theorem aeu(H:gQ)(v k:Nat):rowAt H v k=rowOf k H[v]? := by unfold rowAt rowOf;split<;>simp_all
@[simp] theorem asO(k:Nat)(t:ej)(g:Nat)(cs:List D):rowOf k (aE (.row t g cs))=if g=k then aE (t,cs)else none:=rfl
@[simp] theorem aAI(v g o:Nat)(H:gQ):zm (.ptr v g o) H=(rowAt H v g).bind λp=>p.2[o]? := by show(match rowAt H v g with|some (_,cs)=>cs[o]? | none=>eh)=_;cases rowAt H v g<;>rfl
@[simp] theorem aAH(cs:List D)(H:gQ):zm (.ie cs) H=cs[0]? := rfl
def zn(n o:Nat):Option (ej×List D)->Option D
 | some p=>if o+n<=p.2.l then aE (.agg ((p.2.drop o).take n))else eh
 | none=>eh
@[simp] theorem aAO(n o:Nat):zn n o eh=none:=rfl
@[simp low] theorem aAP(n o:Nat)(p:ej×List D):zn n o (aE p)=if o+n<=p.2.l then aE (.agg ((p.2.drop o).take n))else none:=rfl
@[simp] theorem aAK(n v g o:Nat)(H:gQ):yg n (.ptr v g o) H=zn n o (rowAt H v g):=by show(match rowAt H v g with|some (_,cs)=>if o+n<=cs.l then aE (D.agg ((cs.drop o).take n))else eh|none=>eh)=_;cases rowAt H v g<;>rfl
@[simp] theorem aAJ(n:Nat)(cs:List D)(H:gQ):yg n (.ie cs) H=if n<=cs.l then aE (.agg (cs.take n))else none:=rfl
@[simp] theorem aEA(v g o:Nat)(x:D)(H:gQ):E8 (.ptr v g o) x H=(rowAt H v g).bind λp=>if o<p.2.l/\one x=dx then aE (.any,.cells v o [x])else none:=by show(match rowAt H v g with|some (_,cs)=>if o<cs.l/\one x=dx then aE (D.any,Dl.cells v o [x])else eh|none=>eh)=_;cases rowAt H v g<;>rfl
@[simp] theorem aEB(n v g o:Nat)(xs:List D)(H:gQ):Fa n (.ptr v g o) (.agg xs) H=(rowAt H v g).bind λp=>if xs.l=n/\o+n<=p.2.l then aE (.any,.cells v o xs)else none:=by show(match rowAt H v g with|some (_,cs)=>if xs.l=n/\o+n<=cs.l then aE (D.any,Dl.cells v o xs)else eh|none=>eh)=_;cases rowAt H v g<;>rfl
@[simp] theorem axo(t:ej)(cs:List D)(n:Nat):sU t (.agg cs) n=aE (.ptr n 0 0,.new (.row t 0 cs)):=rfl
@[simp] theorem axI(cs:List D):cellsOf (.agg cs)=aE cs:=rfl
@[simp] theorem axU(k:di)(n:Int):cellsOf (.val (.int k n))=aE [.val (.int k n)]:=rfl
@[simp] theorem axJ(b:Bool):cellsOf (.b b)=aE [.b b]:=rfl
@[simp] theorem axZ(b:ByteArray):cellsOf (.val (.string b))=aE [.val (.string b)]:=rfl
@[simp] theorem axY(sz:Nat)(es:List (List D)):cellsOf (.sl sz es)=aE [.sl sz es]:=rfl
@[simp] theorem axL(l:List Int):cellsOf (dI l)=aE [dI l]:=rfl
@[simp] theorem axO(l:List Pos):cellsOf (iZ l)=aE [iZ l]:=rfl
@[simp] theorem axN(l:List gT):cellsOf (iS l)=aE [iS l]:=rfl
@[simp] theorem axM{α:Type}(sz:Nat)(f:α->List D)(l:List α):cellsOf (dN sz f l)=aE [dN sz f l]:=by cases l<;>rfl
@[simp] theorem axR:cellsOf .gV=aE [.gV]:=rfl
@[simp] theorem axW(v g sz off n:Nat):cellsOf (.gR v g sz off n)=aE [.gR v g sz off n]:=rfl
@[simp] theorem axX(v g o:Nat):cellsOf (.ptr v g o)=aE [.ptr v g o]:=rfl
@[simp] theorem axT(cs:List D):cellsOf (.ie cs)=aE [.ie cs]:=rfl
@[simp] theorem axV(v:Nat):cellsOf (.im v)=aE [.im v]:=rfl
@[simp] theorem axS(f:Fn)(a b:List D):cellsOf (.fn f a b)=aE [.fn f a b]:=rfl
@[simp] theorem aCI(k:di)(n:Int):one (.val (.int k n))=true:=rfl
@[simp] theorem aCz(b:Bool):one (.b b)=true:=rfl
@[simp] theorem aCN(b:ByteArray):one (.val (.string b))=true:=rfl
@[simp] theorem aCM(sz:Nat)(es:List (List D)):one (.sl sz es)=true:=rfl
@[simp] theorem aCB(l:List Int):one (dI l)=true:=rfl
@[simp] theorem aCD(l:List Pos):one (iZ l)=true:=rfl
@[simp] theorem aCC(l:List gT):one (iS l)=true:=rfl
@[simp] theorem aCF:one .gV=true:=rfl
@[simp] theorem aCK(v g sz off n:Nat):one (.gR v g sz off n)=true:=rfl
@[simp] theorem aCL(v g o:Nat):one (.ptr v g o)=true:=rfl
@[simp] theorem aCH(cs:List D):one (.ie cs)=true:=rfl
@[simp] theorem aCJ(v:Nat):one (.im v)=true:=rfl
@[simp] theorem aCG(f:Fn)(a b:List D):one (.fn f a b)=true:=rfl
@[simp] theorem axA(f:iM)(z:List D)(ps:List (Nat×Nat×X)):FR f z ps=(partsOf f ps).bind λl=>(lay l z).bind λcs=>aE (D.agg cs):=by
 unfold FR;cases partsOf f ps with
 | none=>rfl
 | some l=>simp only[ez];cases lay l z<;>rfl
@[simp] theorem axz(f:iM)(t sz:Nat)(z:List D)(m:Nat)(ps:List (Nat×X))(n:Nat):Bl f t sz z m ps n=(partsOf f (ps.map λp=>(p.1*sz,sz,p.2))).bind λl=>(lay l (eL m z).flatten).bind λcs=>aE (.gR n 0 sz 0 m,.new (.row t 0 cs)):=by
 unfold Bl;cases partsOf f (ps.map λp=>(p.1*sz,sz,p.2))with
 | none=>rfl
 | some l=>simp only[ez];cases lay l (eL m z).flatten<;>rfl
@[simp] theorem aCV(f:iM):partsOf f []=aE []:=rfl
@[simp] theorem aCU(f:iM)(o n:Nat)(x:X)(r:List (Nat×Nat×X)):partsOf f ((o,n,x)::r)=(cellsOf (ev f x)).bind λcs=>(partsOf f r).bind λl=>aE ((o,n,cs)::l):=by show(match cellsOf (ev f x),partsOf f r with|some cs,aE l=>aE ((o,n,cs)::l)|_,_=>eh)=_;cases cellsOf (ev f x)<;>cases partsOf f r<;>rfl
@[simp] theorem akW(vs:List er)(k:di)(n:Int):ot 1 (.nj vs) (.val (.int k n))=if 0<=n/\n<vs.l then aE (.ie [.val (vs.getD n.n undef)])else none:=by simp[ot]
@[simp] theorem aAX(vs:List er)(H:gQ):od .slice (.nj vs) H=aE (.i vs.l):=rfl
@[simp] theorem az2(sz v g off len:Nat)(k:di)(n:Int):ot sz (.gR v g sz off len) (.val (.int k n))=if 0<=n/\n<len then aE (.ptr v g ((off+n.n)*sz))else none:=by simp[ot]
@[simp] theorem az4(sz n v g o:Nat)(k:di)(i:Int):KW sz n (.ptr v g o) (.val (.int k i))=if 0<=i/\i<n then aE (.ptr v g (o+i.n*sz))else none:=rfl
@[simp] theorem az3(sz n:Nat)(cs:List D)(k:di)(i:Int):KW sz n (.ie cs) (.val (.int k i))=if 0<=i/\i<n then aE (.ie (cs.drop (i.n*sz)))else none:=rfl
@[simp] theorem az5(sz n:Nat)(b:Bool)(cs:List D)(k:di)(i:Int):Rw sz n b (.agg cs) (.val (.int k i))=if 0<=i/\i<n then Dt (i.n*sz) sz b (.agg cs)else none:=rfl
@[simp] theorem axn(f:iM)(n:Int):jd f eh n=aE n:=rfl
def wC:D->Option Int
 | .val (.int _ n)=>aE n
 | _=>eh
@[simp] theorem az7(k:di)(n:Int):wC (.val (.int k n))=aE n:=rfl
@[simp] theorem Zr(f:iM)(x:X)(n:Int):jd f (aE x) n=wC (ev f x):=by show(match ev f x with | .val (.int _ n)=>aE n|_=>eh)=_;unfold wC;split<;>simp_all
@[simp] theorem SB(f:iM)(sz:Nat)(es:List (List D))(lo hi:Option X):vH f sz (.sl sz es) lo hi=(jd f lo 0).bind λl=>(jd f hi es.l).bind λh=>if 0<=l/\l<=h/\h<=es.l then aE (.sl sz ((es.drop l.n).take (h.n-l.n)))else none:=by simp only[vH];cases jd f lo 0<;>cases jd f hi es.l<;>simp
@[simp] theorem aEq(f:iM)(sz v g off len:Nat)(lo hi:Option X):vH f sz (.gR v g sz off len) lo hi=(jd f lo 0).bind λl=>(jd f hi len).bind λh=>if 0<=l/\l<=h/\h<=len then aE (.gR v g sz (off+l.n) (h.n-l.n))else none:=by simp only[vH];cases jd f lo 0<;>cases jd f hi len<;>simp
@[simp] theorem aEp(f:iM)(sz:Nat)(lo hi:Option X):vH f sz .gV lo hi=(jd f lo 0).bind λl=>(jd f hi 0).bind λh=>if l=0/\h=0 then aE .gV else none:=by simp only[vH];cases jd f lo 0<;>cases jd f hi 0<;>simp
@[simp] theorem ati(f:iM)(sz:Nat)(es:List (List D))(lo:Option X)(hi mx:X):AW f sz (.sl sz es) lo hi mx=(jd f lo 0).bind λl=>(wC (ev f hi)).bind λh=>(wC (ev f mx)).bind λm=>if 0<=l/\l<=h/\h=m/\m<=es.l then aE (clip sz ((es.drop l.n).take (h.n-l.n)))else none:=by simp only[AW,Zr];cases jd f lo 0<;>cases wC (ev f hi)<;>cases wC (ev f mx)<;>simp
@[simp] theorem aEj(f:iM)(sz:Nat)(lo:Option X)(hi mx:X):AW f sz .gV lo hi mx=(jd f lo 0).bind λl=>(wC (ev f hi)).bind λh=>(wC (ev f mx)).bind λm=>if l=0/\h=0/\m=0 then aE .gV else none:=by simp only[AW,Zr];cases jd f lo 0<;>cases wC (ev f hi)<;>cases wC (ev f mx)<;>simp
@[simp] theorem aEk(f:iM)(sz n v g o:Nat)(lo hi:Option X)(H:gQ):CH f sz n (.ptr v g o) lo hi H=(jd f lo 0).bind λl=>(jd f hi n).bind λh=>(rowAt H v g).bind λp=>if o % sz=0/\o+n*sz<=p.2.l/\n<=16777216/\0<=l/\l<=h/\h<=n then aE (.gR v g sz (o / sz+l.n) (h.n-l.n))else none:=by
 simp only[CH]
 cases jd f lo 0 with
 | none=>rfl
 | some l=>cases jd f hi n with
  | none=>rfl
  | some h=>dsimp only;cases rowAt H v g<;>rfl
def L7{α:Type}(f:α->List D)(l:List α)(a b:Nat):((l.map f).drop a).take b=((l.drop a).take b).map f:=by rw[List.map_take,List.map_drop]
@[simp] theorem aEm(f:iM)(l:List Pos)(lo hi:Option X):vH f 5 (iZ l) lo hi=(jd f lo 0).bind λa=>(jd f hi l.l).bind λh=>if 0<=a/\a<=h/\h<=l.l then aE (iZ ((l.drop a.n).take (h.n-a.n)))else none:=by unfold iZ;rw[SB,eK];simp only[L7]
@[irreducible] def cl{α:Type}(f:α->List D)(l:List α):List D:=(l.map f).flatten
theorem pO{α:Type}(f:α->List D)(l:List α):cl f l=(l.map f).flatten:=by rw[cl]
@[simp] theorem atm(sz:Nat)(H:gQ)(es:List (List D)):lX sz H (.sl sz es)=aE (es.flatten,es.l):=by simp[lX]
@[simp] theorem HS{α:Type}(sz:Nat)(f:α->List D)(H:gQ)(l:List α):lX sz H (.sl sz (l.map f))=aE (cl f l,l.l):=by rw[atm,eK,pO]
@[simp] theorem aEr(H:gQ)(l:List Int):lX 1 H (dI l)=aE (cl f1 l,l.l):=by unfold dI;exact HS ..
@[simp] theorem aEv(H:gQ)(l:List Pos):lX 5 H (iZ l)=aE (cl Pos.cells l,l.l):=by unfold iZ;exact HS ..
@[simp] theorem aEu(H:gQ)(l:List gT):lX 2 H (iS l)=aE (cl fS l,l.l):=by unfold iS;exact HS ..
@[simp] theorem aEs{α:Type}(sz:Nat)(f:α->List D)(H:gQ)(l:List α):lX sz H (dN sz f l)=aE (cl f l,l.l):=by
 cases l with
 | nil=>show aE ([],0)=_;rw[pO];rfl
 | cons a l=>exact HS sz f H (a::l)
@[simp] theorem aEx(sz:Nat)(H:gQ):lX sz H .gV=aE ([],0):=rfl
@[simp] theorem aEz(sz:Nat)(H:gQ)(v g off len:Nat):lX sz H (.gR v g sz off len)=(rowAt H v g).bind λp=>if (off+len)*sz<=p.2.l then aE ((p.2.drop (off*sz)).take (len*sz),len)else none:=by simp only[lX];cases rowAt H v g<;>simp
@[simp] theorem awL(t sz bytes v g len:Nat)(y:D)(H:gQ)(a:Nat):tC t sz bytes (.gR v g sz 0 len) y H a=(lX sz H y).bind λq=>(rowAt H v g).bind λr=>if r.1=t/\len*sz<=r.2.l/\(len+q.2)*bytes<=140737488355328/\len+q.2<=9223372036854775807 then aE (.gR v (g+1) sz 0 (len+q.2),.obj v (.row t (g+1) (r.2.take (len*sz)++q.1)))else none:=by
 simp only[tC]
 cases lX sz H y with
 | none=>rfl
 | some q=>cases rowAt H v g<;>simp
@[simp low] theorem awM(t sz bytes v g off len:Nat)(y:D)(H:gQ)(a:Nat):tC t sz bytes (.gR v g sz off len) y H a=(lX sz H y).bind λq=>(rowAt H v g).bind λr=>if r.1=t/\(off+len)*sz<=r.2.l/\(len+q.2)*bytes<=140737488355328/\len+q.2<=9223372036854775807 then aE (.gR v (g+1) sz 0 (len+q.2),.obj v (.row t (g+1) ((r.2.drop (off*sz)).take (len*sz)++q.1)))else none:=by
 simp only[tC]
 cases lX sz H y with
 | none=>rfl
 | some q=>cases rowAt H v g<;>simp
@[simp] theorem afV(t bytes:Nat)(vs:List er)(y:D)(H:gQ)(a:Nat):tC t 1 bytes (.nj vs) y H a=(lX 1 H y).bind λq=>if q.2≠0/\(vs.l+q.2)*bytes<=140737488355328/\vs.l+q.2<=9223372036854775807 then aE (.gR a 0 1 0 (vs.l+q.2),.new (.row t 0 (vs.map .val++q.1)))else none:=by simp only[tC];cases lX 1 H y<;>simp
@[simp] theorem awG(t sz bytes:Nat)(y:D)(H:gQ)(a:Nat):tC t sz bytes .gV y H a=(lX sz H y).bind λq=>if q.2=0 then aE (.gV,.no)else if q.2*bytes<=140737488355328/\q.2<=9223372036854775807 then aE (.gR a 0 sz 0 q.2,.new (.row t 0 q.1))else none:=by simp only[tC];cases lX sz H y<;>rfl
@[simp] theorem aBA(t sz bytes:Nat)(z:List D)(k a:di)(n m:Int)(v:Nat):Hl t sz bytes z (.val (.int k n)) (.val (.int a m)) v=if 0<=n/\n<=m/\tb m 9223372036854775807/\tb ((bytes:Int)*m) 281474976710656 then aE (.gR v 0 sz 0 n.n,.new (.row t 0 (eL m.n z).flatten))else none:=rfl
@[simp] theorem aAR(n:Int)(k:Nat):tb n k=(n<=(k:Int)):=rfl
@[simp] theorem az9(f:iM):tQ f []=aE []:=rfl
def VT:D->Option Int
 | .val (.int .i64 n)=>aE n
 | _=>eh
@[simp] theorem az1(n:Int):VT (.i n)=aE n:=rfl
@[simp] theorem az8(f:iM)(x:X)(r:List X):tQ f (x::r)=(VT (ev f x)).bind λn=>(tQ f r).bind λl=>aE (n::l):=by
 show(match ev f x,tQ f r with | .val (.int .i64 n),aE l=>aE (n::l)|_,_=>eh)=_;unfold VT;split
 .rename_i h1 b;rw[h1,b];rfl
 .rename_i h;split
  .rename_i n a
   cases hl:tQ f r with
   | none=>rfl
   | some l=>exact absurd hl (h _ _ a)
  .rfl
def WD(d:Bool):List Int->Option D
 | [a,b]=>aE (.i (if d then max a b else min a b))
 | [a,b,c]=>aE (.i (if d then max (max a b) c else min (min a b) c))
 | _=>eh
@[simp] theorem mm2(m:Bool)(a b:Int):WD m [a,b]=aE (.i (if m then max a b else min a b)):=rfl
@[simp] theorem aBz(f:iM)(m:Bool)(xs:List X):Hj f m xs=(tQ f xs).bind (WD m):=by
 unfold Hj
 cases tQ f xs with
 | none=>rfl
 | some l=>simp only[ez];unfold WD;split<;>simp_all
@[simp] theorem axC(f:iM)(g:cp)(args:List X):lZ f (.call g args)=aE (g,args.map (ev f)):=rfl
def PG(args:List D):D->Option (cp×List D)
 | .fn (.func k) first cap=>aE (k,first++args++cap)
 | _=>eh
@[simp] theorem axB(args:List D)(k:cp)(first cap:List D):PG args (.fn (.func k) first cap)=aE (k,first++args++cap):=rfl
@[simp] theorem agm(f:iM)(g:X)(args:List X):lZ f (.callv g args)=PG (args.map (ev f)) (ev f g):=by show(match ev f g with | .fn (.func k) first cap=>aE (k,first++args.map (ev f)++cap)|_=>eh)=_;unfold PG;split<;>simp_all
def We(z:D)(ok:Bool):Option D->D
 | some d=>if ok then .tup [d,.b dx]else d
 | none=>if ok then .tup [z,.b ek]else z
@[simp] theorem aBj(z:D)(ok:Bool)(d:D):We z ok (aE d)=if ok then .tup [d,.b dx]else d:=rfl
@[simp] theorem aBi(z:D)(ok:Bool):We z ok eh=if ok then .tup [z,.b ek]else z:=rfl
@[simp] theorem aBk(kk:KK)(z:D)(ok:Bool)(v:Nat)(k:D)(H:gQ):Es kk z ok (.im v) k H=(keyOf k).bind λkv=>(mU H v).bind λp=>if p.1=kk/\p.1.has kv=dx then aE (We z ok (oN p.2 kv))else none:=by
 unfold Es
 cases keyOf k with
 | none=>rfl
 | some kv=>
  cases h:mU H v with
  | none=>simp[h]
  | some p=>
   simp only[h,ez];split
   .cases oN p.2 kv<;>rfl
   .rfl
@[simp] theorem aBw(kk:KK)(v:Nat)(k x:D)(H:gQ):Co kk (.im v) k x H=(keyOf k).bind λkv=>(mU H v).bind λp=>if p.1=kk/\p.1.has kv=dx then aE (.any,.obj v (.map p.1 (lF p.2 kv x)))else none:=by
 unfold Co
 cases keyOf k with
 | none=>rfl
 | some kv=>cases h:mU H v<;>simp[h]
def mapOf:Option Ob->Option (KK×List (er×D))
 | some (.map kk es)=>aE (kk,es)
 | _=>eh
@[simp] theorem aBv(kk:KK)(es:List (er×D)):mapOf (aE (.map kk es))=aE (kk,es):=rfl
@[simp] theorem Wn(H:gQ)(v:Nat):mU H v=mapOf H[v]? := by unfold mU mapOf;split<;>simp_all
@[simp] theorem aAz(k:di)(n:Int):uC (.int k n) = .val (.int k n):=rfl
@[simp] theorem aAB(s:ByteArray):uC (.string s) = .val (.string s):=rfl
@[simp] theorem aAy(b:Bool):uC (.bool b) = .b b:=rfl
@[simp] theorem aAE(s:ByteArray):keyOf (.val (.string s))=aE (.string s):=rfl
@[simp] theorem aAC(b:Bool):keyOf (.b b)=aE (.bool b):=rfl
@[simp] theorem aAD(k:di)(n:Int):keyOf (.val (.int k n))=aE (.int k n):=rfl
@[simp] theorem aAW(v:Nat)(H:gQ):od .map (.im v) H=(mU H v).bind λp=>aE (.i p.2.l):=by simp only[od];cases mU H v<;>rfl
@[simp] theorem ayV(ls:List oe)(neg:Bool)(x y:D):Dk ek ls neg x y=(oi ls [x] [y]).bind λr=>aE (.b (if neg then !r else r)):=by simp only[Dk];cases oi ls [x] [y]<;>rfl
@[simp] theorem ayU(ls:List oe)(neg:Bool)(x y:List D):Dk dx ls neg (.agg x) (.agg y)=(oi ls x y).bind λr=>aE (.b (if neg then !r else r)):=by simp only[Dk];cases oi ls x y<;>rfl
@[simp] theorem axH:oi [] [] []=aE true:=rfl
@[simp] theorem axG(l:oe)(ls:List oe)(x y:D)(xs c:List D):oi (l::ls) (x::xs) (y::c)=(wZ l x y).bind λa=>(oi ls xs c).bind λb=>aE (a&&b):=by show(match wZ l x y,oi ls xs c with|some a,aE b=>aE (a&&b)|_,_=>eh)=_;cases wZ l x y<;>cases oi ls xs c<;>rfl
@[simp] theorem axE(a b:Int):wZ .int (.i a) (.i b)=aE (decide (a=b)):=by simp[wZ,BEq.beq]
@[simp] theorem axD(a b:Bool):wZ .bool (.b a) (.b b)=aE (a == b):=rfl
@[simp] theorem axF(a b:ByteArray):wZ .str (.val (.string a)) (.val (.string b))=aE (a.data.toList == b.data.toList):=rfl
attribute [simp] iL kill xu HH iO kX xE ym wY wX nW RV lay Al.last oN lF oz KK.has iB
@[simp] theorem aFh(v g sz off n:Nat):pk (.gR v g sz off n) = [(v,eh)]:=rfl
@[simp] theorem aFg(v:Nat):pk (.im v) = [(v,eh)]:=rfl
@[simp] theorem aFj(sz:Nat)(es:List (List D)):pk (.sl sz es) = []:=rfl
@[simp] theorem aFe:pk .gV = []:=rfl
@[simp] theorem aFk(v:er):pk (.val v) = []:=rfl
@[simp] theorem aFb(cs:List D):pk (.agg cs) = []:=rfl
@[simp] theorem aFf(cs:List D):pk (.ie cs) = []:=rfl
@[simp] theorem aFi(v g o:Nat):pk (.ptr v g o) = []:=rfl
@[simp] theorem aFd(l:List Int):pk (dI l) = []:=by unfold dI;rfl
def XB(d:D)(P Q:Prop)(_:Tag (PProd.mk P Q)):Prop:=∃x,d = .b x/\(x=dx->P)/\(x=ek->Q)
def X2(x:Bool)(P Q:Prop)(_:Tag (PProd.mk P Q)):Prop:=(x=dx->P)/\(x=ek->Q)
@[simp] theorem auA(P Q:Prop):X2 dx P Q .mk=P:=by simp[X2]
@[simp] theorem auw(P Q:Prop):X2 ek P Q .mk=Q:=by simp[X2]
@[simp] theorem auy(x:Bool)(P Q:Prop):X2 (!x) P Q .mk=X2 x Q P .mk:=by cases x<;>simp[X2]
@[simp] theorem auz(x y:Bool)(P Q:Prop):X2 (!x || !y) P Q .mk=X2 (x&&y) Q P .mk:=by cases x<;>cases y<;>simp[X2]
theorem X2.d{p:Prop}[Decidable p]{P Q:Prop}(h:p->P)(k:¬p->Q):X2 (decide p) P Q .mk:=⟨λe=>h (of_decide_eq_true e),λe=>k (of_decide_eq_false e)⟩
def X2.a{p q:Prop}[Decidable p][Decidable q]{P Q:Prop}(h:p->q->P)(k:¬(p/\q)->Q):X2 (decide p&&decide q) P Q .mk:=by rw[<-eu];exact X2.d (λe=>h e.1 e.2) k
def X2.o{p q:Prop}[Decidable p][Decidable q]{P Q:Prop}(h:p\/q->P)(k:¬(p\/q)->Q):X2 (decide p||decide q) P Q .mk:=by rw[<-gG];exact X2.d h k
def X2.z{p:Prop}[Decidable p]{P Q:Prop}(h:¬p)(k:Q):X2 (decide p) P Q .mk:=X2.d (λn=>absurd n h) (λ_=>k)
@[simp] theorem auC(x:Bool)(a b:D)(P Q:Prop):XB (bif x then a else b) P Q .mk=X2 x (XB a P Q .mk) (XB b P Q .mk) .mk:=by cases x<;>simp
def X2.b{x:Bool}{P Q:Prop}(h:x=dx->P)(k:x=ek->Q):X2 x P Q .mk:=⟨h,k⟩
def Xg{p q:Prop}(b:q)(a:p:=by first|omega|assumption):p/\q:=⟨a,b⟩
@[simp] theorem auB(x:Bool)(P Q:Prop):XB (.b x) P Q .mk=X2 x P Q .mk:=by cases x<;>simp[XB,X2]
@[simp high] theorem auE(P Q:Prop):XB (.b dx) P Q .mk=P:=by simp[XB]
@[simp high] theorem auD(P Q:Prop):XB (.b ek) P Q .mk=Q:=by simp[XB]
def XG(g:Option Bool)(P Q:Prop)(_:Tag (PProd.mk P Q)):Prop:=∃x,g=aE x/\(x=dx->P)/\(x=ek->Q)
@[simp] theorem auU(x:Bool)(P Q:Prop):XG (aE x) P Q .mk=X2 x P Q .mk:=by cases x<;>simp[XG,X2]
@[simp high] theorem auX(P Q:Prop):XG (aE dx) P Q .mk=P:=by simp[XG]
@[simp high] theorem auW(P Q:Prop):XG (aE ek) P Q .mk=Q:=by simp[XG]
@[simp] theorem auV(x w:Bool)(a b:D)(P Q:Prop):XG (gB (bif x then a else b) w) P Q .mk=X2 x (XG (gB a w) P Q .mk) (XG (gB b w) P Q .mk) .mk:=by cases x<;>simp
def kp(s:St)(dst:Option Nat)(K:St->Prop):D×Dl->Prop:=λp=>K { s with env:=put s.env dst p.1,H:=p.2.app s.H (Al.last s.H) }
def kt(s:St)(dst:Option Nat)(R:List Fp)(Q:Rc->St->Prop):D×Dl->Prop:=λp=>Q ⟨R,kX s.H.l p.2⟩ { s with env:=put s.env dst p.1,H:=p.2.app s.H (Al.last s.H) }
section
variable(T:jt)
def ik(f:cp)(args:List D)(dst:Option Nat)(s:St)(K:St->Prop)(_:Tag (dst,s,K)):Prop:=
 (∃fn,T.fn f=aE fn/\fn.full=ek/\Wf T f (args.map (ib (λ_=>eh) s.H 40)) [] λd Hn=>oA (after s dst args d Hn) K .mk) \/
 (∃fn,T.fn f=aE fn/\fn.full=dx/\Wf T f args s.H λd H'=>K { s with env:=put s.env dst d,H:=H' })
def ke(f:cp)(args:List D)(R:List Fp)(dst:Option Nat)(s:St)(Q:Rc->St->Prop)(_:Tag (dst,s,Q)):Prop:=
 ∃fn d,T.fn f=aE fn/\fn.full=ek/\Wf T f (args.map (ib (λ_=>eh) s.H 40)) [] (λd' Hn=>d'=d/\Hn = [])/\(if iB args then closed d else flat d)=dx/\Q ⟨R,[]⟩ { s with env:=put s.env dst d }
def rX(f:cp)(args:List D)(R:List Fp)(dst:Option Nat)(s:St)(Q:Rc->St->Prop)(t:Tag (dst,s,Q)):Prop:=
 ke T f args R dst s Q t\/∃fn d ob,T.fn f=aE fn/\fn.full=ek/\Wf T f (args.map (ib (λ_=>eh) s.H 40)) [] (λd' Hn=>d'=d/\Hn = [ob]) /\
  (if iB args then oC d&&pP ob else rl d&&r8 ob)=dx/\Q ⟨R,[(s.H.l,eh)]⟩ { s with env:=put s.env dst (lL s.H.l d),H:=s.H ++ [ob] }
def wW(f:cp)(args:List D)(R:List Fp)(dst:Option Nat)(s:St)(Q:Rc->St->Prop)(t:Tag (dst,s,Q)):Prop:=
 rX T f args R dst s Q t\/∃fn d v,T.fn f=aE fn/\fn.full=ek/\(∀u∈(args.map (jq s.H 40)).flatten,u=v)/\v∈(args.map (jq s.H 40)).flatten/\(rowsOf s.H v).isSome=dx /\
  iB (args.map (ib (λ_=>eh) s.H 40))=dx/\Wf T f (args.map (ib (λ_=>eh) s.H 40)) [] (λd' Hn=>d'=d/\Hn = [])/\closed d=dx/\Q ⟨R,[(v,eh)]⟩ { s with env:=put s.env dst d,H:=s.H.set v .dead }
def EN(v rf:Nat)(dst:Option Nat)(s:St)(K:St->Prop):jD:=λo=>∃a,o.st.H[v]? = aE (.iV rf a .busy)/\K { s with env:=put s.env dst (.b !o.stop),H:=o.st.H.set v (.iV rf a o.CD) }
def nJ(v:Nat)(args:List D)(dst:Option Nat)(s:St)(K:St->Prop)(_:Tag (dst,s,K)):Prop:=
 ∃rf env0 Rd,s.H[v]? = aE (.iV rf env0 .ready)/\T.round rf=aE Rd/\args.l=Rd.params.l /\
  Wc T Rd.a { env:=wP Rd.params args env0,H:=s.H,iI:=dx } λo=>∃s1 a,o = .norm s1/\s1.H[v]? = aE (.iV rf a .ready)/\Wc T Rd.b { s1 with H:=s1.H.set v (.iV rf a .busy) } (EN v rf dst s K)
def yQ(d:D)(args:List D)(dst:Option Nat)(s:St)(K:St->Prop)(t:Tag (dst,s,K)):Prop:=
 match d with
 | .jF v=>nJ T v args dst s K t
 | d=>oA (PG args d) (λp=>ik T p.1 p.2 dst s K t) .mk
def ub(x:D)(dst:Option Nat)(s:St)(K:St->Prop)(_:Tag (dst,s,K)):Prop:=
 ∃v m since seen kk es,x = .ptr v 0 0/\s.H[v]? = aE (.jO (.im m) since seen)/\s.H[m]? = aE (.map kk es)/\es.l=since /\
  ((∀i,i<es.l->i∈seen)->K { s with env:=put s.env dst (.tup [.b ek]) }) /\
  (∀i k d,es[i]? = aE (k,d)->i ∉ seen->K { s with env:=put s.env dst (.tup [.b dx,uC k,d]),H:=s.H.set v (.jO (.im m) since (seen ++ [i])) })
def jL(op:jG)(dst:Option Nat)(s:St)(K:St->Prop):Prop:=
 match op with
 | .call f args=>ik T f (args.map (ev s.env.get)) dst s K .mk
 | .callN f args=>ik T f (args.map (ev s.env.get)) dst s K .mk
 | .callv f args=>yQ T (ev s.env.get f) (args.map (ev s.env.get)) dst s K .mk
 | .nilS a b=>oA (nW s.env.get s.H s.H.l (.nilS a b)) (kp s dst K) .mk
 | .capE a=>oA (nW s.env.get s.H s.H.l (.capE a)) (kp s dst K) .mk
 | .appZ a b c d e f=>oA (nW s.env.get s.H s.H.l (.appZ a b c d e f)) (kp s dst K) .mk
 | .clr a b c=>oA (nW s.env.get s.H s.H.l (.clr a b c)) (kp s dst K) .mk
 | .rangeS a=>oA (nW s.env.get s.H s.H.l (.rangeS a)) (kp s dst K) .mk
 | .nextS a=>oA (nW s.env.get s.H s.H.l (.nextS a)) (kp s dst K) .mk
 | .rangeM a=>oA (nW s.env.get s.H s.H.l (.rangeM a)) (kp s dst K) .mk
 | .entry a=>oA (nW s.env.get s.H s.H.l (.entry a)) (kp s dst K) .mk
 | .mapEnt a b c d=>oA (nW s.env.get s.H s.H.l (.mapEnt a b c d)) (kp s dst K) .mk
 | .entSt a b c=>oA (nW s.env.get s.H s.H.l (.entSt a b c)) (kp s dst K) .mk
 | .nextM a=>ub (ev s.env.get a) dst s K .mk
 | op=>oA (iL s.env.get s.H s.H.l op) (kp s dst K) .mk
def kU(op:jG)(dst:Option Nat)(s:St)(Q:Rc->St->Prop):Prop:=
 match op with
 | .call f args=>ke T f (args.map (ev s.env.get)) (iO s.env.get s.H (.call f args)) dst s Q .mk
 | .callN f args=>wW T f (args.map (ev s.env.get)) (iO s.env.get s.H (.callN f args)) dst s Q .mk
 | .callv f args=>oA (lZ s.env.get (.callv f args)) (λp=>ke T p.1 p.2 (iO s.env.get s.H (.callv f args)) dst s Q .mk) .mk
 | op=>oA (iL s.env.get s.H s.H.l op) (kt s dst (iO s.env.get s.H op) Q) .mk
def XO:List jb->St->(St->Prop)->Prop
 | [],s,K=>K s
 | e::r,s,K=>XG (guardOf s.env.get e.guard) (jL T e.op e.dst s λs'=>XO r s' K) (XO r { s with env:=put s.env e.dst (.val undef) } K) .mk
def XT:List jb->St->(List Rc->St->Prop)->Prop
 | [],s,K=>K [] s
 | e::r,s,K=>XG (guardOf s.env.get e.guard) (kU T e.op e.dst s λrc s'=>XT r s' λrs a=>K (rc::rs) a) (XT r { s with env:=put s.env e.dst (.val undef) } λrs a=>K (⟨[],[]⟩::rs) a) .mk
end
section
variable{T:jt}
theorem WK{α:Type}{x:Option α}{P Q:α->Prop}{t:Tag P}{u:Tag Q}(h:oA x P t)(hi:∀a,P a->Q a):oA x Q u:=by obtain⟨a,h1,b⟩:=h;exact⟨a,h1,hi a b⟩
theorem ik.mono{f:cp}{args:List D}{dst:Option Nat}{s:St}{K c:St->Prop}{t:Tag (dst,s,K)}{u:Tag (dst,s,c)}(h:ik T f args dst s K t)(hi:∀s,K s->c s):ik T f args dst s c u:=by
 rcases h with⟨fn,b,a,h⟩|⟨fn,b,a,h⟩
 .exact .inl ⟨fn,b,a,Wf.mono h λd Hn h=>WK h hi⟩
 .exact .inr ⟨fn,b,a,Wf.mono h λd H h=>hi _ h⟩
theorem nJ.mono{v:Nat}{args:List D}{dst:Option Nat}{s:St}{K a:St->Prop}{t:Tag (dst,s,K)}{u:Tag (dst,s,a)}(h:nJ T v args dst s K t)(hi:∀s,K s->a s):nJ T v args dst s a u:=by obtain⟨rf,env0,Rd,d,f,hl,h⟩:=h;exact⟨rf,env0,Rd,d,f,hl,h.mono λo ⟨s1,c,e,h1,j⟩=>⟨s1,c,e,h1,j.mono λo ⟨b,i,g⟩=>⟨b,i,hi _ g⟩⟩⟩
theorem yQ.mono{d:D}{args:List D}{dst:Option Nat}{s:St}{K a:St->Prop}{t:Tag (dst,s,K)}{u:Tag (dst,s,a)}(h:yQ T d args dst s K t)(hi:∀s,K s->a s):yQ T d args dst s a u:=by
 unfold yQ at h ⊢;split at h
 .exact nJ.mono h hi
 .exact WK h λp b=>ik.mono b hi
theorem ub.mono{x:D}{dst:Option Nat}{s:St}{K a:St->Prop}{t:Tag (dst,s,K)}{u:Tag (dst,s,a)}(h:ub x dst s K t)(hi:∀s,K s->a s):ub x dst s a u:=by obtain⟨v,m,since,seen,kk,es,h1,g,f,e,c,b⟩:=h;exact⟨v,m,since,seen,kk,es,h1,g,f,e,λh=>hi _ (c h),λi k d j e2=>hi _ (b i k d j e2)⟩
theorem jL.mono{op:jG}{dst:Option Nat}{s:St}{K a:St->Prop}(h:jL T op dst s K)(hi:∀s,K s->a s):jL T op dst s a:=by
 unfold jL at h ⊢
 split at h<;>first
  | exact ik.mono h hi
  | exact yQ.mono h hi
  | exact ub.mono h hi
  | exact WK h λp b=>hi _ b
theorem XO.mono:∀ {l:List jb} {s:St} {K a:St->Prop},XO T l s K->(∀s,K s->a s)->XO T l s a
 | [],s,K,a,h,hi=>hi s h
 | e::r,s,K,a,h,hi=>by obtain⟨x,hg,b,c⟩:=h;exact⟨x,hg,λe=>jL.mono (b e) λs' h=>XO.mono h hi,λe=>XO.mono (c e) hi⟩
theorem ik.wo{f:cp}{args:List D}{s:St}{K:St->Prop}{e:jb}{r:List jb}(hg:guardOf s.env.get e.guard=aE dx)(k:lZ s.env.get e.op=aE (f,args))(h:ik T f args e.dst s (λs'=>Wo T r s' K) .mk):Wo T (e::r) s K:=by
 rcases h with⟨fn,i,g,h⟩|⟨fn,i,g,h⟩
 .refine Ev.Jb hg k i g h (λd Hn b=>?_) λd Hn s' b j=>?_
  .obtain⟨d',H',a,s',hs,c⟩:=b;cases a;rw[hs];rfl
  .obtain⟨d',H',a,l,hs,c⟩:=b;cases a;rw[hs]at j;cases j;exact c
 .exact Ev.Ja hg k i g h λd H' b=>by obtain⟨d',H2,a,c⟩:=b;cases a;exact c
theorem XO.zD{l2:List jb}{K:St->Prop}:∀ {l:List jb} {s:St},XO T l s (λs'=>Wo T l2 s' K)->Wo T (l++l2) s K
 | [],s,h=>h
 | e::r,s,h=>by
  obtain⟨x,hg,D,q⟩:=h
  cases x with
  | false=>exact Wo.off hg (XO.zD (q rfl))
  | true=>
   have h:=D rfl;have plain:oA (iL s.env.get s.H s.H.l e.op) (kp s e.dst λs'=>XO T r s' λs'=>Wo T l2 s' K) .mk->Wo T (e::r++l2) s K:=λ⟨⟨d,δ⟩,w,u⟩=>Wo.op hg w (XO.zD u);have sp:oA (nW s.env.get s.H s.H.l e.op) (kp s e.dst λs'=>XO T r s' λs'=>Wo T l2 s' K) .mk->Wo T (e::r++l2) s K:=λ⟨⟨d,δ⟩,w,u⟩=>Wo.E4 hg w (XO.zD u)
   have call:∀f args,lZ s.env.get e.op=aE (f,args)->ik T f args e.dst s (λs'=>XO T r s' λs'=>Wo T l2 s' K) .mk->Wo T (e::r++l2) s K:=λf args E B=>by
    refine ik.wo hg E ?_;rcases B with⟨fn,q,n,h⟩|⟨fn,q,n,h⟩
    .exact .inl ⟨fn,q,n,Wf.mono h λd Hn ⟨s',h1,c⟩=>⟨s',h1,XO.zD c⟩⟩
    .exact .inr ⟨fn,q,n,Wf.mono h λd Hn h1=>XO.zD h1⟩
   unfold jL at h;split at h
   case h_1 f args b=>exact call _ _ (by rw[b];rfl) h
   case h_2 f args b=>exact call _ _ (by rw[b];rfl) h
   case h_3 f args b=>
    unfold yQ at h;split at h
    .rename_i v C;obtain⟨rf,env0,Rd,z,F,hl,h⟩:=h;have A:yieldOf s.env.get e.op=aE (v,args.map (ev s.env.get)):=by rw[b];simp only[yieldOf,C]
     refine Ev.PF hg A z F hl h (λo ⟨o',g,s1,y,e2,h1,c⟩=>?_) (Rb:=PO (EN v rf e.dst s λs'=>XO T r s' λs'=>Wo T l2 s' K)) (λs1 y ⟨o',g,L,t,e2,h1,c⟩ j=>?_) (λo ⟨o',g,t,h1,c⟩=>?_) λo t ⟨o',g,J,h1,c⟩ j=>?_
     .cases g;subst e2;exact⟨rfl,y,h1⟩
     .cases g;cases e2;rw[h1]at j;cases j;exact c
     .cases g;exact⟨t,h1⟩
     .cases g;rw[h1]at j;cases j;exact XO.zD c
    .rename_i M;obtain⟨p,n,h⟩:=h;exact call p.1 p.2 (by rw[b,agm];exact n) h
   case h_14 a b=>
    obtain⟨v,m,since,seen,kk,es,h1,c,j,I,H,G⟩:=h;exact Ev.next hg b h1 c j I (λk=>XO.zD (H k)) λi k d g e2=>XO.zD (G i k d g e2)
   case h_15=>exact plain h
   all_goals (rename_i b;exact sp (by rw[b];exact h))
theorem XO.wo{l:List jb}{s:St}{K:St->Prop}(h:XO T l s K):Wo T l s K:=by have:=XO.zD (l2:=[]) (K:=K) (XO.mono h λs' k=>Wo.nil k);rwa [az]at this
theorem XT.wt:∀ {l:List jb} {s:St} {K:List Rc->St->Prop},XT T l s K->Wt T l s K
 | [],s,K,h=>Wt.nil h
 | e::r,s,K,h=>by
  obtain⟨x,hg,u,g⟩:=h
  cases x with
  | false=>exact Wt.off hg (XT.wt (g rfl))
  | true=>
   have h:=u rfl
   have call:∀f args,lZ s.env.get e.op=aE (f,args)->ke T f args (iO s.env.get s.H e.op) e.dst s (λrc s'=>XT T r s' λrs o=>K (rc::rs) o) .mk->Wt T (e::r) s K:=λf args y ⟨fn,d,g,b,n,m,c⟩=>
    Ev.Md hg y g b n (λd' Hn ⟨d2,H2,a,i⟩=>by cases a;exact i) m (XT.wt c) λrs s' ⟨j,o,a,k⟩=>by cases a;exact⟨_,_,rfl,k⟩
   unfold kU at h;split at h
   case h_1 f args a=>exact call _ _ (by rw[a];rfl) (by rw[a];exact h)
   case h_2 f args a=>
    rcases h with(h|⟨fn,d,ob,g,b,n,m,c⟩)|⟨fn,d,v,g,b,hS,t,q,m,n,w,c⟩
    .exact call _ _ (by rw[a];rfl) (by rw[a];exact h)
    .exact Ev.Me hg a rfl g b n (λd' Hn ⟨d2,H2,a,i⟩=>by cases a;exact i) m (XT.wt c) λrs s' ⟨j,o,e2,k⟩=>by cases e2;rw[a];exact⟨_,_,rfl,k⟩
    .exact Ev.Mf hg a rfl g b hS t q m n (λd' Hn ⟨d2,H2,a,i⟩=>by cases a;exact i) w (XT.wt c) λrs s' ⟨j,o,e2,k⟩=>by cases e2;rw[a];exact⟨_,_,rfl,k⟩
   case h_3 f args a=>obtain⟨p,b,h⟩:=h;exact call p.1 p.2 (by rw[a];exact b) (by rw[a];exact h)
   case h_4=>obtain⟨⟨d,δ⟩,i,c⟩:=h;exact Wt.op hg i (XT.wt c)
end
def mq:IR->IR
 | .seq a b=>.seq (mq a) (mq b)
 | .cond c a b=>.cond c (mq a) (mq b)
 | .block id live a=>.block id live (mq a)
 | .loop live a=>.loop live (mq a)
 | .fz _ a=>mq a
 | .xL _ a b=>.ops (a++b)
 | c=>c
def wJ:IR->Bool
 | .seq a b=>wJ a&&wJ b
 | .cond _ a b=>wJ a&&wJ b
 | .block _ _ a=>wJ a
 | .loop _ a=>wJ a
 | .fz _ _=>ek
 | .xL _ _ _=>ek
 | _=>dx
theorem ng:∀ {c:IR},wJ c=dx->mq c=c
 | .seq a b,h=>by simp only[wJ,eB]at h;rw[mq,ng h.1,ng h.2]
 | .cond _ a b,h=>by simp only[wJ,eB]at h;rw[mq,ng h.1,ng h.2]
 | .block _ _ a,h=>by rw[mq,ng (c:=a) h]
 | .loop _ a,h=>by rw[mq,ng (c:=a) h]
 | .fz _ _,h=>by cases h
 | .xL _ _ _,h=>by cases h
 | .skip,_ | .ops _,_ | .np _ _,_ | .oH _ _ _,_ | .qb _ _ _,_ | .exit _,_ | .ret,_ | .bad,_=>rfl
def nQ(k:Nat):List jb->Bool
 | { dst:=aE j,.. }::_=>decide (j=k)
 | _=>ek
def jY(k:Nat)(S:List Nat):IR->IR
 | .ops l=>bif nQ k l then .fz S (.ops l)else .ops l
 | .np p l=>bif nQ k l then .fz S (.np p l)else .np p l
 | .oH p l e=>bif nQ k l then .fz S (.oH p l e)else .oH p l e
 | .seq a b=>.seq (jY k S a) (jY k S b)
 | .cond c a b=>.cond c (jY k S a) (jY k S b)
 | .block id live a=>.block id live (jY k S a)
 | .loop live a=>.loop live (jY k S a)
 | .fz d a=>.fz d (jY k S a)
 | c=>c
theorem CL(k:Nat)(S:List Nat):∀c:IR,mq (jY k S c)=mq c
 | .ops l=>by unfold jY;cases nQ k l<;>rfl
 | .np p l=>by unfold jY;cases nQ k l<;>rfl
 | .oH p l e=>by unfold jY;cases nQ k l<;>rfl
 | .seq a b=>by simp only[jY,mq,CL k S a,CL k S b]
 | .cond c a b=>by simp only[jY,mq,CL k S a,CL k S b]
 | .block id live a=>by simp only[jY,mq,CL k S a]
 | .loop live a=>by simp only[jY,mq,CL k S a]
 | .fz d a=>by simp only[jY,mq,CL k S a]
 | .skip | .qb _ _ _ | .exit _ | .ret | .bad | .xL _ _ _=>rfl
def po(k:Nat):List jb->List jb
 | []=>[]
 | e::r=>bif nQ k [e]then []else e::po k r
def py(k:Nat):List jb->List jb
 | []=>[]
 | e::r=>bif nQ k [e]then e::r else py k r
def pY(k:Nat):List jb->Bool
 | []=>ek
 | e::r=>nQ k [e]||pY k r
theorem Zk(k:Nat):∀l:List jb,po k l++py k l=l
 | []=>rfl
 | e::r=>by unfold po py;cases nQ k [e]<;>simp[Zk k r]
def lV(k:Nat)(S:List Nat):IR->IR
 | .ops l=>bif pY k l then .xL S (po k l) (py k l)else .ops l
 | .seq a b=>.seq (lV k S a) (lV k S b)
 | .cond c a b=>.cond c (lV k S a) (lV k S b)
 | .block id live a=>.block id live (lV k S a)
 | .loop live a=>.loop live (lV k S a)
 | .fz d a=>.fz d (lV k S a)
 | c=>c
theorem CM(k:Nat)(S:List Nat):∀c:IR,mq (lV k S c)=mq c
 | .ops l=>by unfold lV;cases pY k l<;>simp[mq,Zk]
 | .seq a b=>by simp only[lV,mq,CM k S a,CM k S b]
 | .cond c a b=>by simp only[lV,mq,CM k S a,CM k S b]
 | .block id live a=>by simp only[lV,mq,CM k S a]
 | .loop live a=>by simp only[lV,mq,CM k S a]
 | .fz d a=>by simp only[lV,mq,CM k S a]
 | .skip | .qb _ _ _ | .exit _ | .ret | .bad | .xL _ _ _ | .np _ _ | .oH _ _ _=>rfl
def gZ(T:jt)(live:List Nat)(a:IR)(s:St)(K:jD)(_:Tag (live,a,s,K)):Prop:=Wc T (.loop live (mq a)) s K
def sT(T:jt)(rf:Nat)(live:List Nat)(x:X)(s:St)(K:jD)(_:Tag (live,x,s,K)):Prop:=Wc T (.qb rf live x) s K
@[irreducible] def zp(m S:List Nat):Bool:=m.all λv => !S.contains v
theorem Lb(m S:List Nat):zp m S=m.all λv => !S.contains v:=by unfold zp;rfl
@[simp] theorem ac4(S:List Nat):zp [] S=true:=by rw[Lb];rfl
@[simp] theorem aBu(v:Nat)(m S:List Nat):zp (v::m) S=(!decide (v∈S)&&zp m S):=by rw[Lb,Lb,List.all_cons,dq]
def S9:D->List Nat
 | .agg cs=>(cs.map (jQ 0)).flatten
 | _=>[]
@[simp] theorem awB(cs:List D):S9 (.agg cs)=(cs.map (jQ 0)).flatten:=rfl
def sD(env:Env):List Nat->List Nat
 | []=>[]
 | v::r=>if v<1000 then v::sD env r else if v<2000 then jQ 0 (env.get (v-1000))++sD env r else S9 (env.get (v-2000))++sD env r
@[simp] theorem azw(env:Env):sD env [] = []:=rfl
@[simp] theorem azv(env:Env)(v:Nat)(r:List Nat):sD env (v::r)=if v<1000 then v::sD env r else if v<2000 then jQ 0 (env.get (v-1000))++sD env r else S9 (env.get (v-2000))++sD env r:=rfl
def XC(T:jt):IR->St->jD->Prop
 | .skip,s,K=>K (.norm s)
 | .ops l,s,K=>XO T l s λs'=>K (.norm s')
 | .np kJ l,s,K=>XT T l s λrs s'=>ym kJ rs=dx/\K (.norm s')
 | .oH kJ l es,s,K=>XT T l s λrs s'=>ym kJ rs=dx/\XO T es s' λs'=>K (.norm s')
 | .seq a b,s,K=>XC T a s λo=>match o with
  | .norm s'=>XC T b s' K
  | o=>K o
 | .cond c a b,s,K=>XB (ev s.env.get c) (XC T a s K) (XC T b s K) .mk
 | .block id live a,s,K=>XC T a s λo=>K (mX id s.H.l live o)
 | .loop live a,s,K=>gZ T live a s K .mk
 | .qb rf live x,s,K=>sT T rf live x s K .mk
 | .exit id,s,K=>K (.exit id s)
 | .ret,s,K=>K (.ret s)
 | .bad,_,_=>False
 | .fz S a,s,K=>zp s.marks (sD s.env S)=dx/\XC T a (mC (sD s.env S) s) K
 | .xL S a b,s,K=>XO T a s λs'=>zp s'.marks (sD s'.env S)=dx/\XO T b (mC (sD s'.env S) s') λs'=>K (.norm s')
def R2(T:jt)(b:IR)(K:jD):jD:=λo=>match o with
 | .norm s'=>XC T b s' K
 | o=>K o
def vN(id n:Nat)(live:List Nat)(K:jD):jD:=λo=>K (mX id n live o)
section
variable{T:jt}
theorem Wc.mC{c:IR}{s:St}{K:jD}(S:List Nat)(a:zp s.marks S=dx)(h:Wc T c (mC S s) K):Wc T c s K:=Ev.JF S (by rwa [Lb]at a) h
theorem XC.wc:∀ {c:IR} {s:St} {K:jD},XC T c s K->Wc T (mq c) s K
 | .skip,s,K,h=>Wc.skip h
 | .ops l,s,K,h=>Wc.ops (XO.wo h)
 | .np kJ l,s,K,h=>Wc.np (XT.wt h)
 | .oH kJ l es,s,K,h=>Wc.oH (Ev.mono (XT.wt h) λ_ ⟨rs,s',q,k⟩=>⟨rs,s',q,k.1,XO.wo k.2⟩)
 | .seq a b,s,K,h=>Wc.seq ((XC.wc (c:=a) h).mono λo d=>by
  cases o with
  | norm s'=>exact XC.wc (c:=b) d
  | exit=>exact d
  | ret=>exact d)
 | .cond _ _ _,_,_,h=>by obtain⟨x,f,g,i⟩:=h;exact Wc.cond x f (λe=>XC.wc (g e)) λe=>XC.wc (i e)
 | .block _ _ _,_,_,h=>Wc.block (XC.wc h)
 | .loop live a,s,K,h=>h
 | .qb rf live x,s,K,h=>h
 | .exit id,s,K,h=>Wc.exit h
 | .ret,s,K,h=>Wc.ret h
 | .bad,s,K,h=>h.elim
 | .fz S a,s,K,h=>Wc.mC (sD s.env S) h.1 (XC.wc (c:=a) h.2)
 | .xL S a b,s,K,h=>Wc.ops (XO.zD (XO.mono h λs' k=>Ev.mC (sD s'.env S) (by have:=k.1;rwa [Lb]at this) (XO.wo k.2)))
def xt(ds:List D):D:=match ds with
 | [d]=>d
 | ds=>.tup ds
@[simp] theorem aDq(d:D):xt [d]=d:=rfl
@[simp] theorem aDr(d e:D):xt [d,e] = .tup [d,e]:=rfl
@[simp] theorem aDs(d e f:D):xt [d,e,f] = .tup [d,e,f]:=rfl
@[simp] theorem aDp:xt [] = .tup []:=rfl
def BB(rs:List xB)(own n:Nat)(K:D->gQ->Prop):jD:=λo=>match o with
 | .norm s | .ret s=>oA (kill s.marks s.H) (λH=>oA (xu { s with H:=H } rs) (λds=>K (leave own n H (xt ds)).1 (leave own n H (xt ds)).2) .mk) .mk
 | .exit _ _=>False
theorem Wf.xz(own:Nat){f:cp}{args:List D}{H:gQ}{fn:kn}{K:D->gQ->Prop}(c:IR)(g:T.fn f=aE fn)(hl:args.l<=fn.ntmps)(i:mq c=fn.body)
  (h:XC T c { env:=wH args,H:=H } (BB fn.results own H.l K)):Wf T f args H K:=by
 have key:∀s:St,(oA (kill s.marks s.H) (λH'=>oA (xu { s with H:=H' } fn.results) (λds=>K (leave own H.l H' (xt ds)).1 (leave own H.l H' (xt ds)).2) .mk) .mk)->∃d H',(match kill s.marks s.H with
  | some H1=>match results fn { s with H:=H1 }with
   | some d=>aE (leave own H.l H1 d)
   | none=>eh
  | none=>eh)=aE (d,H')/\K d H':=by
  rintro s ⟨H1,h1,ds,j,e⟩;rw[h1];refine⟨_,_,?_,e⟩;unfold AL.results;dsimp only;rw[j]
  cases ds with
  | nil=>rfl
  | cons a l=>cases l<;>rfl
 refine Wf.call own g hl (i▸(XC.wc h).mono λo b=>?_)
 cases o with
 | norm s=>exact key s b
 | ret s=>exact key s b
 | exit=>exact b.elim
theorem Wf.xo(own:Nat){f:cp}{args:List D}{H:gQ}{fn:kn}{K:D->gQ->Prop}(b:T.fn f=aE fn)(hl:args.l<=fn.ntmps)
  (h:XC T fn.body { env:=wH args,H:=H } (BB fn.results own H.l K)) (a:wJ fn.body=true:=by rfl):Wf T f args H K:=Wf.xz own fn.body b hl (ng a) h
theorem Wf.x{f:cp}{args:List D}{H:gQ}{fn:kn}{K:D->gQ->Prop}(b:T.fn f=aE fn)(hl:args.l<=fn.ntmps)
  (h:XC T fn.body { env:=wH args,H:=H } (BB fn.results fn.own H.l K)) (a:wJ fn.body=true:=by rfl):Wf T f args H K:=Wf.xo fn.own b hl h a
theorem ik.is{f:cp}{args:List D}{dst:Option Nat}{s:St}{K:St->Prop}{fn:kn}{K0:D->gQ->Prop}(b:T.fn f=aE fn)(a:fn.full=ek)(h:Wf T f (args.map (ib (λ_=>eh) s.H 40)) [] K0)
  (k:∀d Hn,K0 d Hn->oA (after s dst args d Hn) K .mk):ik T f args dst s K .mk:=.inl ⟨fn,b,a,Wf.mono h k⟩
theorem ik.kZ{f:cp}{args:List D}{dst:Option Nat}{s:St}{K:St->Prop}{fn:kn}{K0:D->gQ->Prop}(b:T.fn f=aE fn)(a:fn.full=dx)(h:Wf T f args s.H K0)
  (k:∀d H',K0 d H'->K { s with env:=put s.env dst d,H:=H' }):ik T f args dst s K .mk:=.inr ⟨fn,b,a,Wf.mono h k⟩
theorem ik.c{f:cp}{args:List D}{dst:Option Nat}{s:St}{K:St->Prop}{fn:kn}{x:D}(e:T.fn f=aE fn)(c:fn.full=ek)(h:Wf T f args [] λd H'=>d=x/\H' = [])
  (a:iB args=dx) (b:closed x=dx) (k:K { s with env:=put s.env dst x }):ik T f args dst s K .mk:=by
 refine ik.is e c (K0:=λd H'=>d=x/\H' = []) ?_ ?_
 .have i:args.map (ib (λ_=>eh) s.H 40)=args:=by
   conv=>rhs;rw[<-bn args]
   exact au λd g=>qn (nP a d g)
  rw[i];exact h
 .rintro d Hn ⟨rfl,rfl⟩;obtain⟨k1,k2⟩:=Jh (H:=s.H) b;refine⟨{ s with env:=put s.env dst d },?_,k⟩;unfold after;rw[if_pos a,k1,k2];simp
theorem ik.r{f:cp}{args qt:List D}{dst:Option Nat}{s:St}{K:St->Prop}{fn:kn}{x:D}(e:T.fn f=aE fn)(c:fn.full=ek)(h:Wf T f qt [] λd H'=>d=x/\H' = [])
  (hs:args.map (ib (λ_=>eh) s.H 40)=qt) (b:flat x=dx) (a:closed x=dx) (k:K { s with env:=put s.env dst x }):ik T f args dst s K .mk:=by
 refine ik.is e c (K0:=λd H'=>d=x/\H' = []) (by rw[hs];exact h) ?_;rintro d Hn ⟨rfl,rfl⟩;obtain⟨k1,k2⟩:=Jh (H:=s.H) a;refine⟨{ s with env:=put s.env dst d },?_,k⟩;have:rl d=true:=(T6 (H:=s.H) b).1;unfold after;rw[this,k1,k2];simp
theorem ke.c{f:cp}{args:List D}{R:List Fp}{dst:Option Nat}{s:St}{Q:Rc->St->Prop}{fn:kn}{x:D}(e:T.fn f=aE fn)(c:fn.full=ek)(h:Wf T f args [] λd H'=>d=x/\H' = [])
  (a:iB args=dx) (b:closed x=dx) (k:Q ⟨R,[]⟩ { s with env:=put s.env dst x }):ke T f args R dst s Q .mk:=by
 refine⟨fn,x,e,c,?_,by rw[if_pos a];exact b,k⟩
 have i:args.map (ib (λ_=>eh) s.H 40)=args:=by
  conv=>rhs;rw[<-bn args]
  exact au λd g=>qn (nP a d g)
 rw[i];exact h
theorem ke.r{f:cp}{args qt:List D}{R:List Fp}{dst:Option Nat}{s:St}{Q:Rc->St->Prop}{fn:kn}{x:D}(b:T.fn f=aE fn)(a:fn.full=ek)(h:Wf T f qt [] λd H'=>d=x/\H' = [])
  (hs:args.map (ib (λ_=>eh) s.H 40)=qt) (e:flat x=dx) (c:closed x=dx) (k:Q ⟨R,[]⟩ { s with env:=put s.env dst x }):ke T f args R dst s Q .mk:=
 ⟨fn,x,b,a,by rw[hs];exact h,by split<;>assumption,k⟩
variable{s:St}{K:jD}{a b:IR}{l:List jb}{op:jG}{k j:Nat}
@[simp ↓] theorem auR:XC T .skip s K=K (.norm s):=(rfl)
@[simp ↓] theorem auN:XC T (.ops l) s K=XO T l s λs'=>K (.norm s'):=(rfl)
@[simp ↓] theorem auH{a:List (Nat×Nat)}:XC T (.np a l) s K=XT T l s λrs s'=>ym a rs=dx/\K (.norm s'):=(rfl)
@[simp ↓] theorem auI{a:List (Nat×Nat)}{es:List jb}:XC T (.oH a l es) s K=XT T l s λrs s'=>ym a rs=dx/\XO T es s' λs'=>K (.norm s'):=(rfl)
@[simp ↓] theorem auQ:XC T (.seq a b) s K=XC T a s (R2 T b K):=(rfl)
@[simp ↓] theorem auG{c:X}:XC T (.cond c a b) s K=XB (ev s.env.get c) (XC T a s K) (XC T b s K) .mk:=(rfl)
@[simp ↓] theorem auF{id:Nat}{live:List Nat}:XC T (.block id live a) s K=XC T a s (vN id s.H.l live K):=(rfl)
@[simp ↓] theorem auM{live:List Nat}:XC T (.loop live a) s K=gZ T live a s K .mk:=(rfl)
@[simp ↓] theorem auO{rf:Nat}{live:List Nat}{x:X}:XC T (.qb rf live x) s K=sT T rf live x s K .mk:=(rfl)
@[simp ↓] theorem auK{S:List Nat}:XC T (.fz S a) s K=(zp s.marks (sD s.env S)=dx/\XC T a (mC (sD s.env S) s) K):=(rfl)
@[simp ↓] theorem auL{S:List Nat}{x y:List jb}:XC T (.xL S x y) s K=XO T x s λs'=>zp s'.marks (sD s'.env S)=dx/\XO T y (mC (sD s'.env S) s') λs'=>K (.norm s'):=(rfl)
@[simp ↓] theorem auJ{id:Nat}:XC T (.exit id) s K=K (.exit id s):=(rfl)
@[simp ↓] theorem auP:XC T .ret s K=K (.ret s):=(rfl)
@[simp ↓] theorem aBL:R2 T b K (.norm s)=XC T b s K:=(rfl)
@[simp ↓] theorem aBK{id:Nat}:R2 T b K (.exit id s)=K (.exit id s):=(rfl)
@[simp ↓] theorem aBM:R2 T b K (.ret s)=K (.ret s):=(rfl)
@[simp ↓] theorem C5{id n:Nat}{live:List Nat}:vN id n live K (.norm s)=K (.norm (cut n live s)):=(rfl)
@[simp ↓] theorem axl{id n:Nat}{live:List Nat}:vN id n live K (.ret s)=K (.ret s):=(rfl)
@[simp ↓] theorem I4{id n:Nat}{live:List Nat}:vN id n live K (.exit id s)=K (.norm (cut n live s)):=by simp[vN,mX]
@[simp ↓] theorem axk{id a n:Nat}{live:List Nat}(h:a≠id):vN id n live K (.exit a s)=K (.exit a s):=by simp[vN,mX,h]
@[simp ↓] theorem azb{rs:List xB}{own n:Nat}{K:D->gQ->Prop}:BB rs own n K (.ret s)=oA (kill s.marks s.H) (λH=>oA (xu { s with H:=H } rs) (λds=>K (leave own n H (xt ds)).1 (leave own n H (xt ds)).2) .mk) .mk:=(rfl)
@[simp ↓] theorem aza{rs:List xB}{own n:Nat}{K:D->gQ->Prop}:BB rs own n K (.norm s)=oA (kill s.marks s.H) (λH=>oA (xu { s with H:=H } rs) (λds=>K (leave own n H (xt ds)).1 (leave own n H (xt ds)).2) .mk) .mk:=(rfl)
@[simp ↓] theorem auY{K:St->Prop}:XO T [] s K=K s:=(rfl)
@[simp ↓] theorem auZ{K:St->Prop}:XO T (o k op::l) s K=jL T op (aE k) s λs'=>XO T l s' K:=by simp[XO,guardOf]
@[simp ↓] theorem au1{K:St->Prop}:XO T (u op::l) s K=jL T op eh s λs'=>XO T l s' K:=by simp[XO,guardOf]
@[simp ↓] theorem au0{g:Bool}{K:St->Prop}:XO T (og j g k op::l) s K=XG (guardOf s.env.get (aE (j,g))) (jL T op (aE k) s λs'=>XO T l s' K) (XO T l { s with env:=(k,.val undef)::s.env } K) .mk:=(rfl)
@[simp ↓] theorem au2{g:Bool}{K:St->Prop}:XO T (ug j g op::l) s K=XG (guardOf s.env.get (aE (j,g))) (jL T op eh s λs'=>XO T l s' K) (XO T l s K) .mk:=(rfl)
@[simp ↓] theorem avR{Q:List Rc->St->Prop}:XT T [] s Q=Q [] s:=(rfl)
@[simp ↓] theorem avS{Q:List Rc->St->Prop}:XT T (o k op::l) s Q=kU T op (aE k) s λrc s'=>XT T l s' λrs a=>Q (rc::rs) a:=by simp[XT,guardOf]
@[simp ↓] theorem avU{Q:List Rc->St->Prop}:XT T (u op::l) s Q=kU T op eh s λrc s'=>XT T l s' λrs a=>Q (rc::rs) a:=by simp[XT,guardOf]
@[simp ↓] theorem avT{g:Bool}{Q:List Rc->St->Prop}:XT T (og j g k op::l) s Q=XG (guardOf s.env.get (aE (j,g))) (kU T op (aE k) s λrc s'=>XT T l s' λrs a=>Q (rc::rs) a) (XT T l { s with env:=(k,.val undef)::s.env } λrs a=>Q (⟨[],[]⟩::rs) a) .mk:=(rfl)
@[simp ↓] theorem avV{g:Bool}{Q:List Rc->St->Prop}:XT T (ug j g op::l) s Q=XG (guardOf s.env.get (aE (j,g))) (kU T op eh s λrc s'=>XT T l s' λrs a=>Q (rc::rs) a) (XT T l s λrs a=>Q (⟨[],[]⟩::rs) a) .mk:=(rfl)
@[simp ↓] theorem aAF{dst:Option Nat}{K:St->Prop}{d:D}{δ:Dl}:kp s dst K (d,δ)=K { s with env:=put s.env dst d,H:=δ.app s.H (Al.last s.H) }:=(rfl)
@[simp ↓] theorem aAG{dst:Option Nat}{R:List Fp}{Q:Rc->St->Prop}{d:D}{δ:Dl}:kt s dst R Q (d,δ)=Q ⟨R,kX s.H.l δ⟩ { s with env:=put s.env dst d,H:=δ.app s.H (Al.last s.H) }:=(rfl)
section
variable{dst:Option Nat}{K:St->Prop}{Q:Rc->St->Prop}
@[simp ↓] theorem avC{x:X}:jL T (.mv x) dst s K=oA (iL s.env.get s.H s.H.l (.mv x)) (kp s dst K) .mk:=(rfl)
@[simp ↓] theorem awp{x:X}:kU T (.mv x) dst s Q=oA (iL s.env.get s.H s.H.l (.mv x)) (kt s dst (iO s.env.get s.H (.mv x)) Q) .mk:=(rfl)
@[simp ↓] theorem avH{c a b:X}:jL T (.pick c a b) dst s K=oA (iL s.env.get s.H s.H.l (.pick c a b)) (kp s dst K) .mk:=(rfl)
@[simp ↓] theorem awr{c a b:X}:kU T (.pick c a b) dst s Q=oA (iL s.env.get s.H s.H.l (.pick c a b)) (kt s dst (iO s.env.get s.H (.pick c a b)) Q) .mk:=(rfl)
@[simp ↓] theorem au8{t:ej}{x:X}:jL T (.box t x) dst s K=oA (iL s.env.get s.H s.H.l (.box t x)) (kp s dst K) .mk:=(rfl)
@[simp ↓] theorem av0{t:ej}{x:X}:kU T (.box t x) dst s Q=oA (iL s.env.get s.H s.H.l (.box t x)) (kt s dst (iO s.env.get s.H (.box t x)) Q) .mk:=(rfl)
@[simp ↓] theorem au3{t:ej}{z:List D}:jL T (.alloc t z) dst s K=oA (iL s.env.get s.H s.H.l (.alloc t z)) (kp s dst K) .mk:=(rfl)
@[simp ↓] theorem avW{t:ej}{z:List D}:kU T (.alloc t z) dst s Q=oA (iL s.env.get s.H s.H.l (.alloc t z)) (kt s dst (iO s.env.get s.H (.alloc t z)) Q) .mk:=(rfl)
@[simp ↓] theorem au9{z:List D}{ps:List (Nat×Nat×X)}:jL T (.build z ps) dst s K=oA (iL s.env.get s.H s.H.l (.build z ps)) (kp s dst K) .mk:=(rfl)
@[simp ↓] theorem av1{z:List D}{ps:List (Nat×Nat×X)}:kU T (.build z ps) dst s Q=oA (iL s.env.get s.H s.H.l (.build z ps)) (kt s dst (iO s.env.get s.H (.build z ps)) Q) .mk:=(rfl)
@[simp ↓] theorem ava{t sz:Nat}{z:List D}{n:Nat}{ps:List (Nat×X)}:jL T (.buildSl t sz z n ps) dst s K=oA (iL s.env.get s.H s.H.l (.buildSl t sz z n ps)) (kp s dst K) .mk:=(rfl)
@[simp ↓] theorem av2{t sz:Nat}{z:List D}{n:Nat}{ps:List (Nat×X)}:kU T (.buildSl t sz z n ps) dst s Q=oA (iL s.env.get s.H s.H.l (.buildSl t sz z n ps)) (kt s dst (iO s.env.get s.H (.buildSl t sz z n ps)) Q) .mk:=(rfl)
@[simp ↓] theorem avs{x:X}:jL T (.ld1 x) dst s K=oA (iL s.env.get s.H s.H.l (.ld1 x)) (kp s dst K) .mk:=(rfl)
@[simp ↓] theorem awg{x:X}:kU T (.ld1 x) dst s Q=oA (iL s.env.get s.H s.H.l (.ld1 x)) (kt s dst (iO s.env.get s.H (.ld1 x)) Q) .mk:=(rfl)
@[simp ↓] theorem avt{n:Nat}{x:X}:jL T (.ldN n x) dst s K=oA (iL s.env.get s.H s.H.l (.ldN n x)) (kp s dst K) .mk:=(rfl)
@[simp ↓] theorem awh{n:Nat}{x:X}:kU T (.ldN n x) dst s Q=oA (iL s.env.get s.H s.H.l (.ldN n x)) (kt s dst (iO s.env.get s.H (.ldN n x)) Q) .mk:=(rfl)
@[simp ↓] theorem avO{a x:X}:jL T (.st1 a x) dst s K=oA (iL s.env.get s.H s.H.l (.st1 a x)) (kp s dst K) .mk:=(rfl)
@[simp ↓] theorem aww{a x:X}:kU T (.st1 a x) dst s Q=oA (iL s.env.get s.H s.H.l (.st1 a x)) (kt s dst (iO s.env.get s.H (.st1 a x)) Q) .mk:=(rfl)
@[simp ↓] theorem avP{n:Nat}{a x:X}:jL T (.stN n a x) dst s K=oA (iL s.env.get s.H s.H.l (.stN n a x)) (kp s dst K) .mk:=(rfl)
@[simp ↓] theorem awx{n:Nat}{a x:X}:kU T (.stN n a x) dst s Q=oA (iL s.env.get s.H s.H.l (.stN n a x)) (kt s dst (iO s.env.get s.H (.stN n a x)) Q) .mk:=(rfl)
@[simp ↓] theorem avG{x:X}:jL T (.nilck x) dst s K=oA (iL s.env.get s.H s.H.l (.nilck x)) (kp s dst K) .mk:=(rfl)
@[simp ↓] theorem awq{x:X}:kU T (.nilck x) dst s Q=oA (iL s.env.get s.H s.H.l (.nilck x)) (kt s dst (iO s.env.get s.H (.nilck x)) Q) .mk:=(rfl)
@[simp ↓] theorem au6{op:BinOp}{x y:X}:jL T (.arith op x y) dst s K=oA (iL s.env.get s.H s.H.l (.arith op x y)) (kp s dst K) .mk:=(rfl)
@[simp ↓] theorem avY{op:BinOp}{x y:X}:kU T (.arith op x y) dst s Q=oA (iL s.env.get s.H s.H.l (.arith op x y)) (kt s dst (iO s.env.get s.H (.arith op x y)) Q) .mk:=(rfl)
@[simp ↓] theorem avk{a:Bool}{ls:List oe}{neg:Bool}{x y:X}:jL T (.eqS a ls neg x y) dst s K=oA (iL s.env.get s.H s.H.l (.eqS a ls neg x y)) (kp s dst K) .mk:=(rfl)
@[simp ↓] theorem av8{a:Bool}{ls:List oe}{neg:Bool}{x y:X}:kU T (.eqS a ls neg x y) dst s Q=oA (iL s.env.get s.H s.H.l (.eqS a ls neg x y)) (kt s dst (iO s.env.get s.H (.eqS a ls neg x y)) Q) .mk:=(rfl)
@[simp ↓] theorem avQ{op:UnOp}{x:X}:jL T (.un op x) dst s K=oA (iL s.env.get s.H s.H.l (.un op x)) (kp s dst K) .mk:=(rfl)
@[simp ↓] theorem awy{op:UnOp}{x:X}:kU T (.un op x) dst s Q=oA (iL s.env.get s.H s.H.l (.un op x)) (kt s dst (iO s.env.get s.H (.un op x)) Q) .mk:=(rfl)
@[simp ↓] theorem avg{k:di}{x:X}:jL T (.conv k x) dst s K=oA (iL s.env.get s.H s.H.l (.conv k x)) (kp s dst K) .mk:=(rfl)
@[simp ↓] theorem av6{k:di}{x:X}:kU T (.conv k x) dst s Q=oA (iL s.env.get s.H s.H.l (.conv k x)) (kt s dst (iO s.env.get s.H (.conv k x)) Q) .mk:=(rfl)
@[simp ↓] theorem au7{x:X}:jL T (.b2s x) dst s K=oA (iL s.env.get s.H s.H.l (.b2s x)) (kp s dst K) .mk:=(rfl)
@[simp ↓] theorem avZ{x:X}:kU T (.b2s x) dst s Q=oA (iL s.env.get s.H s.H.l (.b2s x)) (kt s dst (iO s.env.get s.H (.b2s x)) Q) .mk:=(rfl)
@[simp ↓] theorem avz{fn:Fn}{first a:List X}:jL T (.mkfn fn first a) dst s K=oA (iL s.env.get s.H s.H.l (.mkfn fn first a)) (kp s dst K) .mk:=(rfl)
@[simp ↓] theorem awm{fn:Fn}{first a:List X}:kU T (.mkfn fn first a) dst s Q=oA (iL s.env.get s.H s.H.l (.mkfn fn first a)) (kt s dst (iO s.env.get s.H (.mkfn fn first a)) Q) .mk:=(rfl)
@[simp ↓] theorem avA{kk:KK}:jL T (.mkmap kk) dst s K=oA (iL s.env.get s.H s.H.l (.mkmap kk)) (kp s dst K) .mk:=(rfl)
@[simp ↓] theorem awn{kk:KK}:kU T (.mkmap kk) dst s Q=oA (iL s.env.get s.H s.H.l (.mkmap kk)) (kt s dst (iO s.env.get s.H (.mkmap kk)) Q) .mk:=(rfl)
@[simp ↓] theorem avB{t sz bytes:Nat}{z:List D}{l c:X}:jL T (.mksl t sz bytes z l c) dst s K=oA (iL s.env.get s.H s.H.l (.mksl t sz bytes z l c)) (kp s dst K) .mk:=(rfl)
@[simp ↓] theorem awo{t sz bytes:Nat}{z:List D}{l c:X}:kU T (.mksl t sz bytes z l c) dst s Q=oA (iL s.env.get s.H s.H.l (.mksl t sz bytes z l c)) (kt s dst (iO s.env.get s.H (.mksl t sz bytes z l c)) Q) .mk:=(rfl)
@[simp ↓] theorem avK{sz:Nat}{x:X}{lo hi:Option X}:jL T (.slc sz x lo hi) dst s K=oA (iL s.env.get s.H s.H.l (.slc sz x lo hi)) (kp s dst K) .mk:=(rfl)
@[simp ↓] theorem aws{sz:Nat}{x:X}{lo hi:Option X}:kU T (.slc sz x lo hi) dst s Q=oA (iL s.env.get s.H s.H.l (.slc sz x lo hi)) (kt s dst (iO s.env.get s.H (.slc sz x lo hi)) Q) .mk:=(rfl)
@[simp ↓] theorem avL{sz:Nat}{x:X}{lo:Option X}{hi mx:X}:jL T (.slc3 sz x lo hi mx) dst s K=oA (iL s.env.get s.H s.H.l (.slc3 sz x lo hi mx)) (kp s dst K) .mk:=(rfl)
@[simp ↓] theorem awt{sz:Nat}{x:X}{lo:Option X}{hi mx:X}:kU T (.slc3 sz x lo hi mx) dst s Q=oA (iL s.env.get s.H s.H.l (.slc3 sz x lo hi mx)) (kt s dst (iO s.env.get s.H (.slc3 sz x lo hi mx)) Q) .mk:=(rfl)
@[simp ↓] theorem avM{sz n:Nat}{x:X}{lo hi:Option X}:jL T (.slcArr sz n x lo hi) dst s K=oA (iL s.env.get s.H s.H.l (.slcArr sz n x lo hi)) (kp s dst K) .mk:=(rfl)
@[simp ↓] theorem awu{sz n:Nat}{x:X}{lo hi:Option X}:kU T (.slcArr sz n x lo hi) dst s Q=oA (iL s.env.get s.H s.H.l (.slcArr sz n x lo hi)) (kt s dst (iO s.env.get s.H (.slcArr sz n x lo hi)) Q) .mk:=(rfl)
@[simp ↓] theorem avN{x:X}{lo hi:Option X}:jL T (.slcS x lo hi) dst s K=oA (iL s.env.get s.H s.H.l (.slcS x lo hi)) (kp s dst K) .mk:=(rfl)
@[simp ↓] theorem awv{x:X}{lo hi:Option X}:kU T (.slcS x lo hi) dst s Q=oA (iL s.env.get s.H s.H.l (.slcS x lo hi)) (kt s dst (iO s.env.get s.H (.slcS x lo hi)) Q) .mk:=(rfl)
@[simp ↓] theorem avn{off:Nat}{x:X}:jL T (.fieldA off x) dst s K=oA (iL s.env.get s.H s.H.l (.fieldA off x)) (kp s dst K) .mk:=(rfl)
@[simp ↓] theorem awb{off:Nat}{x:X}:kU T (.fieldA off x) dst s Q=oA (iL s.env.get s.H s.H.l (.fieldA off x)) (kt s dst (iO s.env.get s.H (.fieldA off x)) Q) .mk:=(rfl)
@[simp ↓] theorem avm{off n:Nat}{a:Bool}{x:X}:jL T (.field off n a x) dst s K=oA (iL s.env.get s.H s.H.l (.field off n a x)) (kp s dst K) .mk:=(rfl)
@[simp ↓] theorem awa{off n:Nat}{a:Bool}{x:X}:kU T (.field off n a x) dst s Q=oA (iL s.env.get s.H s.H.l (.field off n a x)) (kt s dst (iO s.env.get s.H (.field off n a x)) Q) .mk:=(rfl)
@[simp ↓] theorem avp{sz:Nat}{x i:X}:jL T (.idxA sz x i) dst s K=oA (iL s.env.get s.H s.H.l (.idxA sz x i)) (kp s dst K) .mk:=(rfl)
@[simp ↓] theorem awd{sz:Nat}{x i:X}:kU T (.idxA sz x i) dst s Q=oA (iL s.env.get s.H s.H.l (.idxA sz x i)) (kt s dst (iO s.env.get s.H (.idxA sz x i)) Q) .mk:=(rfl)
@[simp ↓] theorem avq{sz n:Nat}{x i:X}:jL T (.idxArr sz n x i) dst s K=oA (iL s.env.get s.H s.H.l (.idxArr sz n x i)) (kp s dst K) .mk:=(rfl)
@[simp ↓] theorem awe{sz n:Nat}{x i:X}:kU T (.idxArr sz n x i) dst s Q=oA (iL s.env.get s.H s.H.l (.idxArr sz n x i)) (kt s dst (iO s.env.get s.H (.idxArr sz n x i)) Q) .mk:=(rfl)
@[simp ↓] theorem avo{sz n:Nat}{a:Bool}{x i:X}:jL T (.idx sz n a x i) dst s K=oA (iL s.env.get s.H s.H.l (.idx sz n a x i)) (kp s dst K) .mk:=(rfl)
@[simp ↓] theorem awc{sz n:Nat}{a:Bool}{x i:X}:kU T (.idx sz n a x i) dst s Q=oA (iL s.env.get s.H s.H.l (.idx sz n a x i)) (kt s dst (iO s.env.get s.H (.idx sz n a x i)) Q) .mk:=(rfl)
@[simp ↓] theorem avr{x i:X}:jL T (.idxStr x i) dst s K=oA (iL s.env.get s.H s.H.l (.idxStr x i)) (kp s dst K) .mk:=(rfl)
@[simp ↓] theorem awf{x i:X}:kU T (.idxStr x i) dst s Q=oA (iL s.env.get s.H s.H.l (.idxStr x i)) (kt s dst (iO s.env.get s.H (.idxStr x i)) Q) .mk:=(rfl)
@[simp ↓] theorem avv{kk:KK}{z:D}{ok:Bool}{m k:X}:jL T (.lookup kk z ok m k) dst s K=oA (iL s.env.get s.H s.H.l (.lookup kk z ok m k)) (kp s dst K) .mk:=(rfl)
@[simp ↓] theorem awj{kk:KK}{z:D}{ok:Bool}{m k:X}:kU T (.lookup kk z ok m k) dst s Q=oA (iL s.env.get s.H s.H.l (.lookup kk z ok m k)) (kt s dst (iO s.env.get s.H (.lookup kk z ok m k)) Q) .mk:=(rfl)
@[simp ↓] theorem avx{kk:KK}{m k v:X}:jL T (.mapUpd kk m k v) dst s K=oA (iL s.env.get s.H s.H.l (.mapUpd kk m k v)) (kp s dst K) .mk:=(rfl)
@[simp ↓] theorem awk{kk:KK}{m k v:X}:kU T (.mapUpd kk m k v) dst s Q=oA (iL s.env.get s.H s.H.l (.mapUpd kk m k v)) (kt s dst (iO s.env.get s.H (.mapUpd kk m k v)) Q) .mk:=(rfl)
@[simp ↓] theorem avl{x:X}{i:Nat}:jL T (.ext x i) dst s K=oA (iL s.env.get s.H s.H.l (.ext x i)) (kp s dst K) .mk:=(rfl)
@[simp ↓] theorem av9{x:X}{i:Nat}:kU T (.ext x i) dst s Q=oA (iL s.env.get s.H s.H.l (.ext x i)) (kt s dst (iO s.env.get s.H (.ext x i)) Q) .mk:=(rfl)
@[simp ↓] theorem avb{f:cp}{args:List X}:jL T (.call f args) dst s K=ik T f (args.map (ev s.env.get)) dst s K .mk:=(rfl)
@[simp ↓] theorem av3{f:cp}{args:List X}:kU T (.call f args) dst s Q=ke T f (args.map (ev s.env.get)) (iO s.env.get s.H (.call f args)) dst s Q .mk:=(rfl)
@[simp ↓] theorem avc{f:cp}{args:List X}:jL T (.callN f args) dst s K=ik T f (args.map (ev s.env.get)) dst s K .mk:=(rfl)
@[simp ↓] theorem av4{f:cp}{args:List X}:kU T (.callN f args) dst s Q=wW T f (args.map (ev s.env.get)) (iO s.env.get s.H (.callN f args)) dst s Q .mk:=(rfl)
@[simp ↓] theorem avd{f:X}{args:List X}:jL T (.callv f args) dst s K=yQ T (ev s.env.get f) (args.map (ev s.env.get)) dst s K .mk:=(rfl)
@[simp] theorem auS{k:cp}{first cap args:List D}:yQ T (.fn (.func k) first cap) args dst s K .mk=ik T k (first++args++cap) dst s K .mk:=by show oA (aE (k,first++args++cap)) (λp=>ik T p.1 p.2 dst s K .mk) .mk=_;simp only[Cq]
@[simp] theorem auT{v:Nat}{args:List D}:yQ T (.jF v) args dst s K .mk=nJ T v args dst s K .mk:=(rfl)
@[simp ↓] theorem av5{f:X}{args:List X}:kU T (.callv f args) dst s Q=oA (lZ s.env.get (.callv f args)) (λp=>ke T p.1 p.2 (iO s.env.get s.H (.callv f args)) dst s Q .mk) .mk:=(rfl)
@[simp ↓] theorem au4{t sz bytes:Nat}{x y:X}:jL T (.app t sz bytes x y) dst s K=oA (iL s.env.get s.H s.H.l (.app t sz bytes x y)) (kp s dst K) .mk:=(rfl)
@[simp ↓] theorem avX{t sz bytes:Nat}{x y:X}:kU T (.app t sz bytes x y) dst s Q=oA (iL s.env.get s.H s.H.l (.app t sz bytes x y)) (kt s dst (iO s.env.get s.H (.app t sz bytes x y)) Q) .mk:=(rfl)
@[simp ↓] theorem avh{sz:Nat}{x y:X}:jL T (.copy sz x y) dst s K=oA (iL s.env.get s.H s.H.l (.copy sz x y)) (kp s dst K) .mk:=(rfl)
@[simp ↓] theorem av7{sz:Nat}{x y:X}:kU T (.copy sz x y) dst s Q=oA (iL s.env.get s.H s.H.l (.copy sz x y)) (kt s dst (iO s.env.get s.H (.copy sz x y)) Q) .mk:=(rfl)
@[simp ↓] theorem avu{k:CZ}{x:X}:jL T (.len k x) dst s K=oA (iL s.env.get s.H s.H.l (.len k x)) (kp s dst K) .mk:=(rfl)
@[simp ↓] theorem awi{k:CZ}{x:X}:kU T (.len k x) dst s Q=oA (iL s.env.get s.H s.H.l (.len k x)) (kt s dst (iO s.env.get s.H (.len k x)) Q) .mk:=(rfl)
@[simp ↓] theorem avy{a:Bool}{xs:List X}:jL T (.minmax a xs) dst s K=oA (iL s.env.get s.H s.H.l (.minmax a xs)) (kp s dst K) .mk:=(rfl)
@[simp ↓] theorem awl{a:Bool}{xs:List X}:kU T (.minmax a xs) dst s Q=oA (iL s.env.get s.H s.H.l (.minmax a xs)) (kt s dst (iO s.env.get s.H (.minmax a xs)) Q) .mk:=(rfl)
@[simp ↓] theorem avF{neg:Bool}{x:X}:jL T (.nilS neg x) dst s K=oA (nW s.env.get s.H s.H.l (.nilS neg x)) (kp s dst K) .mk:=(rfl)
@[simp ↓] theorem ave{x:X}:jL T (.capE x) dst s K=oA (nW s.env.get s.H s.H.l (.capE x)) (kp s dst K) .mk:=(rfl)
@[simp ↓] theorem au5{t sz bytes:Nat}{z:List D}{x n:X}:jL T (.appZ t sz bytes z x n) dst s K=oA (nW s.env.get s.H s.H.l (.appZ t sz bytes z x n)) (kp s dst K) .mk:=(rfl)
@[simp ↓] theorem avf{sz:Nat}{z:List D}{x:X}:jL T (.clr sz z x) dst s K=oA (nW s.env.get s.H s.H.l (.clr sz z x)) (kp s dst K) .mk:=(rfl)
@[simp ↓] theorem avJ{x:X}:jL T (.rangeS x) dst s K=oA (nW s.env.get s.H s.H.l (.rangeS x)) (kp s dst K) .mk:=(rfl)
@[simp ↓] theorem avE{x:X}:jL T (.nextS x) dst s K=oA (nW s.env.get s.H s.H.l (.nextS x)) (kp s dst K) .mk:=(rfl)
@[simp ↓] theorem avI{x:X}:jL T (.rangeM x) dst s K=oA (nW s.env.get s.H s.H.l (.rangeM x)) (kp s dst K) .mk:=(rfl)
@[simp ↓] theorem avD{x:X}:jL T (.nextM x) dst s K=ub (ev s.env.get x) dst s K .mk:=(rfl)
@[simp ↓] theorem avw{kk:KK}{z:D}{m k:X}:jL T (.mapEnt kk z m k) dst s K=oA (nW s.env.get s.H s.H.l (.mapEnt kk z m k)) (kp s dst K) .mk:=(rfl)
@[simp ↓] theorem avi{m k x:X}:jL T (.entSt m k x) dst s K=oA (nW s.env.get s.H s.H.l (.entSt m k x)) (kp s dst K) .mk:=(rfl)
@[simp ↓] theorem avj{x:X}:jL T (.entry x) dst s K=oA (nW s.env.get s.H s.H.l (.entry x)) (kp s dst K) .mk:=(rfl)
end
end
def vz(n:Nat)(live keys:List Nat)(J:Env->gQ->List Nat->Bool->Prop)(K:jD):jD:=λo=>match o with
 | .norm s=>J (forget keys (cut n live s).env) (cut n live s).H (cut n live s).marks (cut n live s).iI
 | o=>K o
@[simp ↓] theorem Et{n:Nat}{live keys:List Nat}{J:Env->gQ->List Nat->Bool->Prop}{K:jD}{s:St}:vz n live keys J K (.norm s)=J (forget keys (cut n live s).env) (cut n live s).H (cut n live s).marks (cut n live s).iI:=(rfl)
@[simp ↓] theorem aBl{n:Nat}{live keys:List Nat}{J:Env->gQ->List Nat->Bool->Prop}{K:jD}{id:Nat}{s:St}:vz n live keys J K (.exit id s)=K (.exit id s):=(rfl)
@[simp ↓] theorem aBn{n:Nat}{live keys:List Nat}{J:Env->gQ->List Nat->Bool->Prop}{K:jD}{s:St}:vz n live keys J K (.ret s)=K (.ret s):=(rfl)
theorem gZ.i{T:jt}{live:List Nat}{a:IR}{s:St}{K:jD}{α:Type}(keys:List Nat)(i:(keys.all λk=>live.contains k)=dx)(E:α->Env)(f:α->gQ)(P:α->Prop)(c:α->Nat)(d:α)
  (h0:P d) (n:forget keys s.env=E d) (l:s.H=f d)
  (h:∀x,P x->XC T a { env:=E x,H:=f x,marks:=s.marks,iI:=s.iI } (vz s.H.l live keys (λe H m r=>∃b,e=E b/\H=f b/\m=s.marks/\r=s.iI/\c b<c x/\P b) K)):gZ T live a s K .mk:=by
 refine Wc.loop (λm s'=>∃x,P x/\m=c x/\({ s' with env:=forget keys s'.env }:St) = { env:=E x,H:=f x,marks:=s.marks,iI:=s.iI }) (c d) ⟨d,h0,rfl,?_⟩ ?_
 .dsimp only;rw[T8 i,n];rw[<-l]
 .rintro m s' ⟨x,hP,rfl,j⟩;refine Ev.F9 keys ?_;rw[j];refine(XC.wc (h x hP)).mono λo g=>?_
  cases o with
  | norm u=>
   obtain⟨b,p,y,w,v,t,h1⟩:=g;refine⟨c b,t,b,h1,rfl,?_⟩;rw[p];generalize cut s.H.l live u=q at *;cases q;simp_all
  | exit=>exact g
  | ret=>exact g
def gZ.j{T:jt}{live:List Nat}{a:IR}{s:St}{K:jD}{α:Type}(b:α)(E:α->Env)(d:α->gQ)(P:α->Prop)(f:α->Nat)
  (h0:P b) (j:forget ((E b).map (·.1)) s.env=E b) (i:s.H=d b) (g:(((E b).map (·.1)).all λk=>live.contains k)=dx)
  (h:∀x,P x->XC T a { env:=E x,H:=d x,marks:=s.marks,iI:=s.iI } (vz s.H.l live ((E b).map (·.1)) (λe H m r=>∃c,e=E c/\H=d c/\m=s.marks/\r=s.iI/\f c<f x/\P c) K)):gZ T live a s K .mk:=
 gZ.i ((E b).map (·.1)) g E d P f b h0 j i h
@[simp] theorem uU{n:Nat}{live:List Nat}{env:Env}{H:gQ}{m:List Nat}{r:Bool}(h:H.l<=n):cut n live { env:=env,H:=H,marks:=m,iI:=r } = { env:=forget live env,H:=H,marks:=m,iI:=r }:=Jq h
def Is(x:D):D->gQ->Prop:=λd Hn=>d=x/\Hn = []
@[simp] theorem aut(x d:D)(H:gQ):Is x d H=(d=x/\H = []):=rfl
@[simp] theorem aCX(x:Bool)(a b:D):EL (.b x) a b=aE (cond x a b):=by cases x<;>rfl
@[simp] theorem aCa(c:Bool)(a b d e:D)(P:D->Prop):oA (EL (bif c then a else b) d e) P .mk=X2 c (oA (EL a d e) P .mk) (oA (EL b d e) P .mk) .mk:=by cases c<;>simp
@[simp] theorem acI{n:Nat}{H:gQ}{d:D}(h:H.l<=n)(own:Nat):leave own n H d=(d,H):=by unfold leave;rw[if_pos (.inl h)]
@[simp] theorem aAS{n:Nat}{H:gQ}{d:D}:leave 4 n H d=(d,H):=by unfold leave;rw[if_pos (.inr rfl)]
section
variable{P:D->Prop}{a b:Int}
@[simp] theorem aBT:oA (kW .add .i64 a b) P .mk=(p6 (a+b)/\P (.i (a+b))):=by simp only[kW,if_true];rw[EH,Cq]
@[simp] theorem aCf:oA (kW .sub .i64 a b) P .mk=(p6 (a-b)/\P (.i (a-b))):=by simp only[kW,if_true];rw[EH,Cq]
@[simp] theorem aB9:oA (kW .mul .i64 a b) P .mk=(p6 (a*b)/\P (.i (a*b))):=by simp only[kW,if_true];rw[EH,Cq]
end
def vF(a b:Int):Int:=IntKind.i64.wrap (a.tdiv b)
def iu(a b:Int):Int:=a.tmod b
def qo{n:Int}(h:p6 n):IntKind.i64.wrap n=n:=by unfold p6 at h;simp only[IntKind.wrap,IntKind.bits,IntKind.signed];simp;omega
def xq{a b:Int}(h0:0<=a)(h1:a<=9223372036854775807)(c:0<b):vF a b=a / b:=by unfold vF;rw[Int.tdiv_eq_ediv_of_nonneg h0,qo];have e:0<=a / b:=Int.ediv_nonneg h0 U;have d:a / b<=a:=Int.ediv_le_self b h0;exact jc
def kK{a b:Int}(h0:0<=a):iu a b=a % b:=Int.tmod_eq_emod_of_nonneg h0
section
variable{P:D->Prop}{a b:Int}{t:Tag P}
@[simp] theorem aCb:oA (kW .quo .i64 a b) P t=(b≠0/\P (.i (vF a b))):=by
 cases t;simp only[kW]
 by_cases h:b=0<;>simp[h,vF]
@[simp] theorem aCd:oA (kW .rem .i64 a b) P t=(b≠0/\P (.i (iu a b))):=by
 cases t;simp only[kW]
 by_cases h:b=0<;>simp[h,iu]
end
@[simp] theorem az6(n:Int):p6 n=(-9223372036854775808<=n/\n<=9223372036854775807):=rfl
def gt{α:Type}[Inhabited α](l:List α)(n:Int):α:=l.getD n.n default
def ij{α:Type}[Inhabited α]{l:List α}{n:Int}(h0:0<=n)(h:n<l.l):gt l n∈l:=by unfold gt;rw[cc,bf U,bh];exact cD _
def jU{α:Type}[Inhabited α]{l:List α}{n:Int}(h0:0<=n)(h:n<l.l):gt l n=l[n.n]:=by unfold gt;rw[cc,bf U,bh]
def w8{α:Type}[Inhabited α]{l:List α}{n:Nat}(h:n<l.l):gt l n=l[n]:=jU U U
def jP{α:Type}[Inhabited α]{l:List α}{n:Int}(h0:0<=n)(h:n<l.l):l.take (n+1).n=l.take n.n ++ [gt l n]:=by rw[jU h0 h,<-List.take_succ_eq_append_getElem U];congr 1;omega
def pa{α:Type}[Inhabited α]{l:List α}{n:Int}(h0:0<=n)(h:n<l.l):l.drop n.n=gt l n::l.drop (n.n+1):=by rw[jU h0 h];exact bW U
def th{α:Type}[Inhabited α]{l:List α}{x:α}:x∈l↔∃n:Int,0<=n/\n<l.l/\gt l n=x:=by
 constructor
 .intro h;obtain⟨i,hi,e⟩:=List.getElem_of_mem h;exact⟨i,U,U,by rw[w8 hi,e]⟩
 .rintro⟨n,h0,h1,rfl⟩;exact ij h0 h1
def nf{α:Type}{l:List α}{n:Int}(h:(l.l:Int)<=n):l.take n.n=l:=af U
section
variable{α:Type}[Inhabited α]{sz:Nat}{f:α->List D}{P:D->Prop}{k:di}
theorem AJ{l:List α}{n:Int}:oA (ot sz (.sl sz (l.map f)) (.val (.int k n))) P .mk=((0<=n/\n<l.l)/\P (.ie (f (gt l n)))):=by
 simp only[ot,eK,true_and,EH,Cq];refine propext ⟨λ⟨h,a⟩=>⟨h,?_⟩,λ⟨h,a⟩=>⟨h,?_⟩⟩
 .rw[cc,aw,bf U,aK,bh]at a;unfold gt;rw[cc,bf U,bh];exact a
 .rw[cc,aw,bf U,aK,bh];unfold gt at a;rw[cc,bf U,bh]at a;exact a
@[simp] theorem aBZ{l:List α}{n:Int}:oA (ot sz (.sl sz (l.map f)) (.val (.int k n))) P .mk=((0<=n/\n<l.l)/\P (.ie (f (gt l n)))):=AJ
@[simp] theorem aBY{l:List Int}{n:Int}:oA (ot 1 (dI l) (.val (.int k n))) P .mk=((0<=n/\n<l.l)/\P (.ie [.i (gt l n)])):=by unfold dI;rw[AJ,Bw]
@[simp] theorem aB4{l:List Pos}{n:Int}:oA (ot 5 (iZ l) (.val (.int k n))) P .mk=((0<=n/\n<l.l)/\P (.ie (gt l n).cells)):=AJ
@[simp] theorem aB3{l:List gT}{n:Int}:oA (ot 2 (iS l) (.val (.int k n))) P .mk=((0<=n/\n<l.l)/\P (.ie [.i (gt l n).1,.i (gt l n).2])):=by unfold iS;rw[AJ,z6]
@[simp] theorem aB1{l:List α}{n:Int}:oA (ot sz (dN sz f l) (.val (.int k n))) P .mk=((0<=n/\n<l.l)/\P (.ie (f (gt l n)))):=by
 cases l with
 | nil=>
  simp only[dN,ot,adz,dp];refine propext ⟨λh=>h.elim,λ⟨h,_⟩=>?_⟩;have:=h.1;have:=h.2;simp at this;omega
 | cons a l=>exact AJ
end
def LW(H:gQ)(k:Nat)(ρ:Nat->Option Nat)(v g sz off n:Nat):Option Nat->D
 | some v'=>.gR v' g sz off n
 | none=>match rowAt H v g with
  | some (_,cs)=>if (off+n)*sz<=cs.l then .sl sz (chunks sz n ((cs.drop (off*sz)).map (ib ρ H k)))else .any
  | none=>.any
@[simp] theorem EZ(ρ:Nat->Option Nat)(H:gQ)(k v g sz off n:Nat):ib ρ H (k+1) (.gR v g sz off n)=LW H k ρ v g sz off n (ρ v):=by rw[ib,if_neg (by simp[closed])];unfold LW;rfl
@[simp] theorem aeG(H:gQ)(k:Nat)(ρ:Nat->Option Nat)(v g sz off n v':Nat):LW H k ρ v g sz off n (aE v') = .gR v' g sz off n:=rfl
def LY(H:gQ)(k:Nat)(ρ:Nat->Option Nat)(v g off:Nat):Option Nat->D
 | some v'=>.ptr v' g off
 | none=>match rowAt H v g with
  | some (_,cs)=>.ie ((cs.drop off).map (ib ρ H k))
  | none=>.any
@[simp] theorem ata(ρ:Nat->Option Nat)(H:gQ)(k v g off:Nat):ib ρ H (k+1) (.ptr v g off)=LY H k ρ v g off (ρ v):=by rw[ib,if_neg (by simp[closed])];unfold LY;rfl
@[simp] theorem as4(H:gQ)(k:Nat)(ρ:Nat->Option Nat)(v g off v':Nat):LY H k ρ v g off (aE v') = .ptr v' g off:=rfl
def Sv:Option Nat->D
 | some v'=>.im v'
 | none=>.any
@[simp] theorem as9(ρ:Nat->Option Nat)(H:gQ)(k v:Nat):ib ρ H (k+1) (.im v)=Sv (ρ v):=by rw[ib,if_neg (by simp[closed])];unfold Sv;rfl
@[simp] theorem as3(v:Nat):Sv (aE v) = .im v:=rfl
@[simp] theorem aDF:Sv eh = .any:=rfl
@[simp] theorem aDP{ρ:Nat->Option Nat}{H:gQ}{k:Nat}{d:D}(h:closed d=dx):ib ρ H k d=d:=qn h
@[simp] theorem ayl(cs:List D):closed (.agg cs)=iB cs:=by simp only[closed]
@[simp] theorem ayG(cs:List D):closed (.tup cs)=iB cs:=by simp only[closed]
@[simp] theorem ayA(cs:List D):closed (.ie cs)=iB cs:=by simp only[closed]
@[simp] theorem ayH(v:er):closed (.val v)=true:=by simp only[closed]
@[simp] theorem ayz:closed .gV=true:=by simp only[closed]
@[simp] theorem Tu(f:Fn)(a b:List D):closed (.fn f a b)=(iB a&&iB b):=by simp only[closed]
@[simp] theorem ayE(v g sz off n:Nat):closed (.gR v g sz off n)=false:=by simp only[closed]
@[simp] theorem ayF(v g o:Nat):closed (.ptr v g o)=false:=by simp only[closed]
@[simp] theorem ayD(v:Nat):closed (.im v)=false:=by simp only[closed]
@[simp] theorem ayI(v:Nat):closed (.jF v)=false:=by simp only[closed]
theorem Ew{ρ:Nat->Option Nat}{H:gQ}{k:Nat}{cs:List D}(h:iB cs=dx):cs.map (ib ρ H k)=cs:=by
 conv=>rhs;rw[<-bn cs]
 exact au λd a=>qn (nP h d a)
@[simp] theorem as7(ρ:Nat->Option Nat)(H:gQ)(k:Nat)(cs:List D):ib ρ H (k+1) (.agg cs) = .agg (cs.map (ib ρ H k)):=by
 by_cases h:closed (.agg cs)=dx
 .rw[qn h,Ew (by simpa using h)]
 .rw[ib,if_neg h]
@[simp] theorem atc(ρ:Nat->Option Nat)(H:gQ)(k:Nat)(cs:List D):ib ρ H (k+1) (.tup cs) = .tup (cs.map (ib ρ H k)):=by
 by_cases h:closed (.tup cs)=dx
 .rw[qn h,Ew (by simpa using h)]
 .rw[ib,if_neg h]
@[simp] theorem aDQ(ρ:Nat->Option Nat)(H:gQ)(k:Nat)(c:Bool)(a b:D):ib ρ H k (bif c then a else b)=bif c then ib ρ H k a else ib ρ H k b:=by cases c<;>rfl
theorem L0{ρ:Nat->Option Nat}{H:gQ}{k:Nat}{cs:List D}(h:iB cs=dx):cs.map (ib ρ H (k+1))=cs:=by
 conv=>rhs;rw[<-bn cs]
 exact au λd a=>qn (nP h d a)
theorem PL{α:Type}{sz:Nat}{f:α->List D}(b:∀a,(f a).l=sz):∀l:List α,chunks sz l.l (l.map f).flatten=l.map f
 | []=>rfl
 | a::l=>by simp only[aF,chunks,fa,bg];rw[aV (by rw[b];exact ep _),af (by rw[b];exact ep _),fo (by rw[b];exact ep _),bE (by rw[b];exact ep _),aS,PL b l]
def alE{α:Type}{sz:Nat}{f:α->List D}(c:∀a,(f a).l=sz)(l:List α):(l.map f).flatten.l=l.l*sz:=by
 induction l with
 | nil=>simp
 | cons a l b=>simp only[fa,bg,aq,c,b,aF,cU];omega
def ZL{a b:List D}:iB (a++b)=(iB a&&iB b):=by
 induction a with
 | nil=>rfl
 | cons d a c=>simp only[bz,iB,c,Bool.and_assoc]
def agL{α:Type}{f:α->List D}(c:∀a,iB (f a)=dx)(l:List α):iB (l.map f).flatten=true:=by
 induction l with
 | nil=>rfl
 | cons a l b=>simp only[fa,bg,ZL,c,b];rfl
class Fl {α:Type} (f:α->List D) (sz:outParam Nat):Prop where
 len:∀a,(f a).l=sz
 cl:∀a,iB (f a)=dx
instance:Fl f1 1:=⟨λ_=>gP,λ_=>by simp[iB]⟩
instance:Fl fB 1:=⟨λ_=>gP,λ_=>by simp[iB]⟩
instance:Fl fS 2:=⟨λ_=>gP,λ_=>by simp[iB]⟩
instance:Fl fP 1:=⟨λ_=>gP,λ_=>by simp[iB]⟩
instance:Fl fI 1:=⟨λ_=>gP,λ_=>by simp[iB]⟩
instance:Fl Pos.cells 5:=⟨λ_=>rfl,λ_=>gP⟩
instance:Fl Kind.cells 3:=⟨λ_=>rfl,λ_=>gP⟩
instance:Fl Clause.cells 4:=⟨λ_=>rfl,λ_=>gP⟩
section
variable{α:Type}{f:α->List D}{sz:Nat}
@[simp] theorem agG:cl f [] = []:=by rw[pO];rfl
@[simp] theorem Da(a b:List α):cl f a++cl f b=cl f (a++b):=by simp[pO]
theorem tE(l:List α)(a:α):cl f l++f a=cl f (l ++ [a]):=by simp[pO]
theorem oG(l:List α)(a:α):cl f (a::l)=f a++cl f l:=by simp[pO]
variable [F:Fl f sz]
include F
@[simp] theorem ue(l:List α):(cl f l).l=l.l*sz:=by rw[pO];exact alE F.len l
theorem zV:∀(l:List α) (n:Nat),(cl f l).take (n*sz)=cl f (l.take n)
 | [],n=>gP
 | a::l,0=>gP
 | a::l,n+1=>by rw[oG,dy,oG,<-zV l n,cU,List.take_append,F.len,af (by rw[F.len];omega)];congr 2;omega
theorem xG:∀(l:List α) (n:Nat),(cl f l).drop (n*sz)=cl f (l.drop n)
 | [],n=>gP
 | a::l,0=>gP
 | a::l,n+1=>by rw[oG,List.drop_succ_cons,<-xG l n,cU,gg,F.len,bE (by rw[F.len];omega),aS];congr 1;omega
@[simp] theorem ayh(l:List α):(cl f l).take (l.l*sz)=cl f l:=by rw[zV,cY]
@[simp] theorem uR(l:List α):iB (cl f l)=true:=by rw[pO];exact agL F.cl l
@[simp] theorem ayf{ρ:Nat->Option Nat}{H:gQ}(l:List α):(cl f l).map (ib ρ H 40)=cl f l:=L0 (uR l)
@[simp] theorem F0{k:Nat}(l:List α):closed (.sl k (l.map f))=true:=by simp only[closed];exact FZ F.cl l
theorem ZJ(l:List α)(n j:Nat)(c:j<sz):(cl f l)[n*sz+j]? = (l[n]?).bind λa=>(f a)[j]? := by
 have h:(cl f l)[n*sz+j]? = ((cl f l).drop (n*sz))[j]? := by rw[aD]
 rw[h,xG]
 by_cases b:n<l.l
 .rw[bW b,oG,ah (by rw[F.len];exact c),bf b];rfl
 .have d:l[n]? = none:=aY (gh b);rw[bE (gh b),d];simp
theorem agH(l:List α)(n:Nat)(a:α)(h:n<l.l):(cl f l).take (n*sz)++f a++(cl f l).drop (n*sz+sz)=cl f (l.take n++a::l.drop (n+1)):=by rw[zV,<-cU,xG,<-Da,oG,aO]
end
@[simp] theorem ax2(l:List Int)(n:Nat):(cl f1 l).take n=cl f1 (l.take n):=by simpa using zV (f:=f1) l n
@[simp] theorem ax0(l:List Int)(n:Nat):(cl f1 l).drop n=cl f1 (l.drop n):=by simpa using xG (f:=f1) l n
@[simp] theorem ax1(l:List Int)(n:Int):cl f1 l ++ [.i n]=cl f1 (l ++ [n]):=by rw[<-tE,Bw]
@[simp] theorem ax5(l:List (List Int))(x:List Int):cl fI l ++ [dI x]=cl fI (l ++ [x]):=by rw[<-tE,aje]
@[simp] theorem ax8(l:List (List gT))(x:List gT):cl fP l ++ [iS x]=cl fP (l ++ [x]):=by rw[<-tE,ajf]
@[simp] theorem aya(l:List gT)(a b:Int):cl fS l ++ [.i a,.i b]=cl fS (l ++ [(a,b)]):=by rw[<-tE,z6]
@[simp] theorem ax9(l:List Pos)(a b c:List Int)(r q:Int):cl Pos.cells l ++ [dI a,dI b,dI c,.i r,.i q]=cl Pos.cells (l ++ [⟨a,b,c,r,q⟩]):=by rw[<-tE];rfl
@[simp] theorem aCY(p:Pos):Pos.mk p.cs p.h0 p.h1 p.iw p.side=p:=rfl
@[simp] theorem aBU{l:List Int}{n:Int}{P:D->Prop}:oA (cl f1 l)[n.n]? P .mk=(n.n<l.l/\P (.i (gt l n))):=by
 have h:=ZJ (f:=f1) l n.n 0 U;simp only[fD,cu]at h;rw[h]
 by_cases a:n.n<l.l
 .rw[bf a];have e:gt l n=l[n.n]:=by unfold gt;rw[cc,bf a];rfl
  simp[a,e]
 .rw[aY U];simp[a]
@[simp] theorem amu{α:Type}[Inhabited α]{f:α->List D}{sz:Nat}[F:Fl f sz]{l:List α}{t:ej}{n:Int}{P:D->Prop}(b:0<sz):oA (zn sz (n.n*sz) (aE (t,cl f l))) P .mk=(n.n<l.l/\P (.agg (f (gt l n)))):=by
 simp only[zn,ue,<-cU];rw[EH,Cq];have h:n.n.succ*sz<=l.l*sz↔n.n<l.l:=gi b;rw[h];refine propext ⟨λ⟨a,p⟩=>⟨a,?_⟩,λ⟨a,p⟩=>⟨a,?_⟩⟩
 .have e:gt l n=l[n.n]:=by unfold gt;rw[cc,bf a];rfl
  rw[xG,bW a,oG,aV (by rw[F.len];exact ep _),af (by rw[F.len];exact ep _),<-e]at p;exact p
 .have e:gt l n=l[n.n]:=by unfold gt;rw[cc,bf a];rfl
  rw[xG,bW a,oG,aV (by rw[F.len];exact ep _),af (by rw[F.len];exact ep _),<-e];exact p
def oq(ρ:Nat->Option Nat)(H:gQ)(k sz off n:Nat):Option (ej×List D)->D
 | some (_,cs)=>if (off+n)*sz<=cs.l then .sl sz (chunks sz n ((cs.drop (off*sz)).map (ib ρ H k)))else .any
 | none=>.any
@[simp] theorem LX(H:gQ)(k:Nat)(ρ:Nat->Option Nat)(v g sz off n:Nat):LW H k ρ v g sz off n eh=oq ρ H k sz off n (rowAt H v g):=by unfold LW oq;rfl
@[simp] theorem uX{α:Type}{f:α->List D}{sz:Nat}[F:Fl f sz]{ρ:Nat->Option Nat}{H:gQ}{k n:Nat}{t:ej}{l:List α}(h:n=l.l):oq ρ H (k+1) sz 0 n (aE (t,cl f l)) = .sl sz (l.map f):=by subst h;unfold oq;dsimp only;rw[ue,if_pos gP,dm,eJ,L0 (uR l),pO,PL F.len]
@[simp] theorem azq{ρ:Nat->Option Nat}{H:gQ}{k sz:Nat}{p:ej×List D}:oq ρ H k sz 0 0 (aE p) = .sl sz []:=by unfold oq;simp[chunks]
@[simp] theorem aEa:D.sl 1 []=dI []:=by unfold dI;rfl
@[simp] theorem azs{ρ:Nat->Option Nat}{H:gQ}{k:Nat}{t:ej}{a b c:List Int}{r q:Int}:oq ρ H (k+1) 5 0 1 (aE (t,[dI a,dI b,dI c,.i r,.i q]))=iZ [⟨a,b,c,r,q⟩]:=by have h:=uX (f:=Pos.cells) (ρ:=ρ) (H:=H) (k:=k) (t:=t) (l:=[⟨a,b,c,r,q⟩]) (n:=1) rfl;rw[pO]at h;unfold iZ;exact h
@[simp] theorem ate(l:List Int):D.sl 1 (l.map f1)=dI l:=by unfold dI;rfl
@[simp] theorem aEf(l:List Pos):D.sl 5 (l.map Pos.cells)=iZ l:=by unfold iZ;rfl
@[simp] theorem atf(l:List gT):D.sl 2 (l.map fS)=iS l:=by unfold iS;rfl
def vG(ρ:Nat->Option Nat)(H:gQ):Option Ob->Ob
 | some o=>lG ρ H o
 | none=>.dead
@[simp] theorem aDO(ρ:Nat->Option Nat)(H:gQ)(t g:Nat)(cs:List D):vG ρ H (aE (.row t g cs)) = .row t g (cs.map (ib ρ H 40)):=rfl
@[simp] theorem aDL(ρ:Nat->Option Nat)(H:gQ)(kk:KK)(es:List (er×D)):vG ρ H (aE (.map kk es)) = .map kk (es.map λx=>(x.1,ib ρ H 40 x.2)):=rfl
@[simp] theorem aDJ(ρ:Nat->Option Nat)(H:gQ):vG ρ H (aE .dead) = .dead:=rfl
@[simp] theorem aDK(ρ:Nat->Option Nat)(H:gQ):vG ρ H (aE .jJ) = .jJ:=rfl
@[simp] theorem aDN(ρ:Nat->Option Nat)(H:gQ)(rf:Nat)(e:Env)(st:sx):vG ρ H (aE (.iV rf e st)) = .iV rf (e.map λx=>(x.1,ib ρ H 40 x.2)) st:=rfl
@[simp] theorem aBI:vD []=false:=(rfl)
@[simp] theorem aBH(k:Nat)(l:List Nat):vD (k::l)=decide (k=9999):=by
 show fb k 9999=_
 cases a:fb k 9999 with
 | true=>exact(decide_eq_true (cO a)).symm
 | false=>exact(decide_eq_false (Nat.ne_of_beq_eq_false a)).symm
@[simp] theorem TF{n:Nat}{l:List Nat}{s:St}:cut n (9999::l) s = { s with env:=forget (9999::l) s.env }:=by unfold cut;dsimp only;rw[if_pos (.inr rfl)]
def F1(env:Env)(H:gQ)(m:List Nat)(r:Bool)(ks:nX):St:={ env:=env.map λp=>(p.1,ib (iP ks) H 40 p.2),H:=ks.map λp=>if p.2 then vG (iP ks) H H[p.1]? else .dead,marks:=m.map λv=>(iP ks v).getD v,iI:=r }
def AP(n:Nat)(env:Env)(H:gQ)(m:List Nat):List Nat:=dedup (((env.map λp=>jQ n p.2).flatten++((H.take n).map (pg n)).flatten++m.filter (n<=·)).filter (· < H.l))
@[simp low] theorem pQ{n:Nat}{live:List Nat}{env:Env}{H:gQ}{m:List Nat}{r:Bool}(h:¬H.l<=n)(a:vD live=ek):cut n live { env:=env,H:=H,marks:=m,iI:=r }=F1 (forget live env) H m r (jx n (AP n (forget live env) H m)):=by unfold cut F1 AP;dsimp only;rw[if_neg (by rw[a];simpa using h)];rfl
@[simp] theorem aAa(K:List Nat):jx 0 K=K.map λv=>(v,dx):=rfl
@[simp] theorem aAb(K:List Nat):jx 1 K=(0,dx)::K.map λv=>(v,dx):=rfl
@[simp] theorem alh(K:List Nat):jx 2 K=(0,dx)::(1,dx)::K.map λv=>(v,dx):=rfl
@[simp] theorem aAq(K:List Nat):jx 3 K=(0,dx)::(1,dx)::(2,dx)::K.map λv=>(v,dx):=rfl
@[simp] theorem aAr(K:List Nat):jx 4 K=(0,dx)::(1,dx)::(2,dx)::(3,dx)::K.map λv=>(v,dx):=rfl
def Cy(i:Nat):nX->Nat->Option Nat
 | [],_=>eh
 | p::r,v=>if p.2&&p.1 == v then aE i else Cy (i+1) r v
def asu(ks:nX)(v:Nat):iP ks v=Cy 0 ks v:=by
 have key:∀(ks:nX) (i:Nat),Cy i ks v=(ks.findIdx? (λp=>p.2&&p.1 == v)).map (· + i):=by
  intro ks
  induction ks with
  | nil=>intro i;rfl
  | cons p r a=>
   intro i;rw[fG];unfold Cy;split
   .simp
   .rw[a,Option.map_map];congr 1;funext x;simp;omega
 rw[key];simp[iP]
@[simp] theorem aDw(v:Nat):iP [] v=none:=rfl
@[simp] theorem aDv(p:Nat×Bool)(r:nX)(v:Nat):iP (p::r) v=if (p.2&&p.1 == v)=dx then aE 0 else Cy 1 r v:=by rw[asu];rfl
@[simp] theorem aDu(i v:Nat):Cy i [] v=none:=rfl
@[simp] theorem aDt(i:Nat)(p:Nat×Bool)(r:nX)(v:Nat):Cy i (p::r) v=if (p.2&&p.1 == v)=dx then aE i else Cy (i+1) r v:=rfl
@[simp] theorem ayN(env:Env)(H:gQ)(m:List Nat)(r:Bool)(ks:nX):F1 env H m r ks = { env:=env.map λp=>(p.1,ib (iP ks) H 40 p.2),H:=ks.map λp=>if p.2 then vG (iP ks) H H[p.1]? else .dead,marks:=m.map λv=>(iP ks v).getD v,iI:=r }:=rfl
@[simp] theorem aDa(n:Nat)(env:Env)(H:gQ)(m:List Nat):AP n env H m=dedup (((env.map λp=>jQ n p.2).flatten++((H.take n).map (pg n)).flatten++m.filter (n<=·)).filter (· < H.l)):=rfl
@[simp] theorem ayP:dedup [] = []:=rfl
@[simp] theorem ayO(x:Nat)(r:List Nat):dedup (x::r)=if x∈r then dedup r else x::dedup r:=rfl
theorem SP(n:Nat){d:D}(h:closed d=dx):jQ n d = []:=by cases d<;>first|rfl|cases h
@[simp] theorem atV(n:Nat)(l:List Int):jQ n (dI l) = []:=rfl
@[simp] theorem aEP(n:Nat)(l:List Pos):jQ n (iZ l) = []:=rfl
@[simp] theorem aEN(n:Nat)(p:Pos):jQ n (dP p) = []:=rfl
@[simp] theorem aEO(n:Nat)(l:List gT):jQ n (iS l) = []:=rfl
@[simp] theorem aEK(n:Nat)(g:gY):jQ n (dG g) = []:=rfl
@[simp] theorem aEI(n:Nat)(g:gY):jQ n g.kC = []:=rfl
@[simp] theorem aEL{α:Type}(n sz:Nat)(f:α->List D)(l:List α):jQ n (dN sz f l) = []:=by cases l<;>rfl
@[simp] theorem aE1(n:Nat)(v:er):jQ n (.val v) = []:=rfl
@[simp] theorem aEH(n:Nat):jQ n .any = []:=rfl
@[simp] theorem aES(n:Nat):jQ n .gV = []:=rfl
@[simp] theorem aEG(n:Nat)(cs:List D):jQ n (.agg cs) = []:=rfl
@[simp] theorem aE0(n:Nat)(cs:List D):jQ n (.tup cs) = []:=rfl
@[simp] theorem aEW(n:Nat)(cs:List D):jQ n (.ie cs) = []:=rfl
@[simp] theorem aEZ(n sz:Nat)(es:List (List D)):jQ n (.sl sz es) = []:=rfl
@[simp] theorem aEV(n:Nat)(f:Fn)(a b:List D):jQ n (.fn f a b) = []:=rfl
@[simp] theorem Xz(n v g sz off len:Nat):jQ n (.gR v g sz off len)=if n<=v then [v]else []:=rfl
@[simp] theorem aEY(n v g off:Nat):jQ n (.ptr v g off)=if n<=v then [v]else []:=rfl
@[simp] theorem aEX(n v:Nat):jQ n (.im v)=if n<=v then [v]else []:=rfl
@[simp] theorem aE2(n v:Nat):jQ n (.jF v)=if n<=v then [v]else []:=rfl
theorem asl(n:Nat){cs:List D}(h:iB cs=dx):(cs.map (jQ n)).flatten = []:=by
 induction cs with
 | nil=>rfl
 | cons d r a=>
  simp only[iB,eB]at h;simp[SP n h.1,a h.2]
@[simp] theorem aye(n:Nat){α:Type}{f:α->List D}{sz:Nat}[F:Fl f sz](l:List α):((cl f l).map (jQ n)).flatten = []:=asl n (uR l)
@[simp] theorem adB(n t g:Nat)(cs:List D):pg n (.row t g cs)=(cs.map (jQ n)).flatten:=rfl
@[simp] theorem amv(n:Nat)(kk:KK)(es:List (er×D)):pg n (.map kk es)=(es.map λx=>jQ n x.2).flatten:=rfl
@[simp] theorem aCg(n:Nat):pg n .dead = []:=rfl
theorem V6{H:gQ}{d:D}(h:H≠[]):leave 0 0 H d=(ib (λ_=>eh) H 40 d,[]):=by unfold leave;rw[if_neg (by rintro(e|e);exact h (aA.1 U);cases e)];rfl
@[simp] theorem aAU{o:Ob}{r:gQ}{d:D}:leave 0 0 (o::r) d=(ib (λ_=>eh) (o::r) 40 d,[]):=V6 gP
attribute [simp] and_assoc Kind.cells Clause.cells dP Pos.cells dG gY.cells gY.kC
def kT(T:jt)(n:Nat)(live:List Nat)(a:IR)(s:St)(K:jD)(_:Tag (live,a,s,K)):Prop:=Ev T (.loop n live (mq a) s) (PO K)
def RK(T:jt)(n:Nat)(live:List Nat)(a:IR)(K:jD):jD:=λo=>match o with
 | .norm s=>kT T n live a (cut n live s) K .mk
 | o=>K o
def aen(T:jt)(v rf:Nat)(b:IR)(dst:Option Nat)(s:St)(K:St->Prop):jD:=λo=>match o with
 | .norm s1=>∃a,s1.H[v]? = aE (.iV rf a .ready)/\XC T b { s1 with H:=s1.H.set v (.iV rf a .busy) } (EN v rf dst s K)
 | _=>False
def nJ.r{T:jt}{v rf:Nat}{args:List D}{dst:Option Nat}{s:St}{K:St->Prop}{env0:Env}{Rd:sR}(e:s.H[v]? = aE (.iV rf env0 .ready))(i:T.round rf=aE Rd)(hl:args.l=Rd.params.l)
  (c b:IR) (g:mq c=Rd.a) (f:mq b=Rd.b)
  (h:XC T c { env:=wP Rd.params args env0,H:=s.H,iI:=dx } (aen T v rf b dst s K)):nJ T v args dst s K .mk:=by
 refine⟨rf,env0,Rd,e,i,hl,?_⟩;rw[<-g];refine(XC.wc h).mono λo a=>?_
 cases o with
 | norm s1=>
  obtain⟨d,h1,j⟩:=a;exact⟨s1,d,rfl,h1,by rw[<-f];exact XC.wc j⟩
 | exit=>exact a.elim
 | ret=>exact a.elim
def asA(rf:Nat)(s:St)(K:jD):D->gQ->Prop:=λ_ H'=>∃env st,H'[s.H.l+1]? = aE (.iV rf env st)/\oA (Cu { s with H:=H'.set (s.H.l+1) .dead,marks:=s.H.l::s.marks } st) K .mk
def sT.r{T:jt}{rf:Nat}{live:List Nat}{x:X}{s:St}{K:jD}{f:cp}{first cap:List D}{fn:kn}(b:s.iI=ek)(a:ev s.env.get x = .fn (.func f) first cap)(e:T.fn f=aE fn)(c:fn.full=dx)
  (h:Wf T f (first ++ [.jF (s.H.l+1)]++cap) (s.H ++ [.jJ,.iV rf (forget live s.env) .ready]) (asA rf s K)):sT T rf live x s K .mk:=
 Ev.qb b a e c h λd H' ⟨d',H2,g,env,st,h1,o,j,i⟩=>by cases g;exact⟨env,st,o,h1,j,o,rfl,i⟩
section
variable{T:jt}{n:Nat}{live:List Nat}{a:IR}{s:St}{K:jD}{id:Nat}
theorem gZ.un(h:kT T s.H.l live a { s with env:=forget live s.env } K .mk):gZ T live a s K .mk:=Ev.loop h
theorem kT.u(h:XC T a s (RK T n live a K)):kT T n live a s K .mk:=by
 refine Ev.Cn (XC.wc h) (λb ⟨o,e,k⟩=>?_) λo ⟨o',e,k⟩ hs=>?_
 .cases e;exact k
 .cases e
  cases o with
  | norm=>cases hs
  | exit=>exact⟨_,rfl,k⟩
  | ret=>exact⟨_,rfl,k⟩
@[simp ↓] theorem aBp:RK T n live a K (.norm s)=kT T n live a (cut n live s) K .mk:=(rfl)
@[simp ↓] theorem aBo:RK T n live a K (.exit id s)=K (.exit id s):=(rfl)
@[simp ↓] theorem aBq:RK T n live a K (.ret s)=K (.ret s):=(rfl)
end
def Xk{x b:Bool}{P Q:Prop}(k:cond b P Q)(h:x=b:=by first|(show _=true;first|assumption|exact decide_eq_true km)|(show _=false;first|assumption|exact decide_eq_false km)):X2 x P Q .mk:=by subst h;cases x<;>simpa using k
class PB (x:Bool) (I:outParam (Prop->Prop)) (q:outParam Prop):Prop where
 t:∀ {P:Prop},I P->x=dx->P
 f:x=ek->q
instance(priority:=low){x:Bool}:PB x (λP=>x=dx->P) (x=ek):=⟨λh e=>h e,id⟩
instance{p:Prop}[Decidable p]:PB (decide p) (λP=>p->P) (¬p):=⟨λh e=>h (of_decide_eq_true e),of_decide_eq_false⟩
instance{p q:Prop}[Decidable p][Decidable q]:PB (decide p&&decide q) (λP=>p->q->P) (¬(p/\q)):=⟨λh e=>by
 rw[<-eu]at e
 exact h (of_decide_eq_true e).1 (of_decide_eq_true e).2,λe=>by rw[<-eu]at e;exact of_decide_eq_false e⟩
instance{p q:Prop}[Decidable p][Decidable q]:PB (decide p||decide q) (λP=>p\/q->P) (¬(p\/q)):=⟨λh e=>by
 rw[<-gG]at e
 exact h (of_decide_eq_true e),λe=>by rw[<-gG]at e;exact of_decide_eq_false e⟩
def Xs{x:Bool}{I:Prop->Prop}{q P Q:Prop}[c:PB x I q](h:I P)(k:q->Q):X2 x P Q .mk:=⟨c.t h,λe=>k (c.f e)⟩
def Yc{T:jt}{f:cp}{args:List D}{dst:Option Nat}{s:St}{K:St->Prop}{fn:kn}{x:D}(h:Wf T f args [] λd H'=>d=x/\H' = [])(k:K { s with env:=put s.env dst x })
  (c:T.fn f=aE fn:=by exact rfl) (b:fn.full=false:=by exact rfl) (e:iB args=true:=by simp) (a:closed x=true:=by simp):ik T f args dst s K .mk:=ik.c c b h e a k
def Yt{T:jt}{f:cp}{args:List D}{R:List Fp}{dst:Option Nat}{s:St}{Q:Rc->St->Prop}{fn:kn}{x:D}(h:Wf T f args [] λd H'=>d=x/\H' = [])(k:Q ⟨R,[]⟩ { s with env:=put s.env dst x })
  (c:T.fn f=aE fn:=by exact rfl) (b:fn.full=false:=by exact rfl) (e:iB args=true:=by simp) (a:closed x=true:=by simp):ke T f args R dst s Q .mk:=ke.c c b h e a k
def Yr{T:jt}{f:cp}{args qt:List D}{dst:Option Nat}{s:St}{K:St->Prop}{fn:kn}{x:D}(h:Wf T f qt [] λd H'=>d=x/\H' = [])(k:K { s with env:=put s.env dst x })
  (e:T.fn f=aE fn:=by exact rfl) (c:fn.full=false:=by exact rfl) (hs:args.map (ib (λ_=>eh) s.H 40)=qt:=by simp) (b:flat x=true:=by simp[flat]) (a:closed x=true:=by simp):ik T f args dst s K .mk:=ik.r e c h hs b a k
def Yg{T:jt}{f:cp}{args:List D}{H:gQ}(fn:kn){K:D->gQ->Prop}(h:XC T fn.body { env:=wH args,H:=H } (BB fn.results fn.own H.l K))
  (b:T.fn f=aE fn:=by exact rfl) (hl:args.l<=fn.ntmps:=by exact dC rfl) (a:wJ fn.body=true:=by exact rfl):Wf T f args H K:=Wf.x b hl h a
def Yz{T:jt}{f:cp}{args:List D}{H:gQ}(fn:kn)(c:IR){K:D->gQ->Prop}(h:XC T c { env:=wH args,H:=H } (BB fn.results fn.own H.l K))
  (a:T.fn f=aE fn:=by exact rfl) (hl:args.l<=fn.ntmps:=by exact dC rfl) (b:mq c=fn.body:=by simp only[CL,CM];exact ng rfl):Wf T f args H K:=Wf.xz fn.own c a hl b h
structure Bx(p:Prop):Prop where
 x:p
def oS{P:Prop}(h:P:=by(with_reducible repeat' first|refine Xk ?_<;>try simp|refine Xs ?_ ?_<;>intro h<;>(try intro a)<;>(try simp[h])<;>try omega|refine Xg ?_|omega)):P:=h
def gU{P Q:Prop}(k:Q)(h:Bx Q->P:=by intro k;(with_reducible repeat' first|refine Xk ?_<;>try simp|refine Xs ?_ ?_<;>intro h<;>(try intro a)<;>(try simp[h])<;>try omega|refine Xg ?_|omega);exact k.x):P:=h ⟨k⟩
def ma{P Q R:Prop}(k:Q)(l:R)(h:Bx Q->Bx R->P:=by intro k l;(with_reducible repeat' first|refine Xk ?_<;>try simp|refine Xs ?_ ?_<;>intro h<;>(try intro a)<;>(try simp[h])<;>try omega|refine Xg ?_|omega);(revert h;exact k.x);(revert h;exact l.x)):P:=h ⟨k⟩ ⟨l⟩
def jM{A P Q:Prop}(a:A)(k:Q)(h:A->Bx Q->P:=by intro a k;(with_reducible repeat' first|refine Xk ?_<;>try simp[a]|refine Xs ?_ ?_<;>intro h<;>(try intro b)<;>(try simp[h,a])<;>try omega|refine Xg ?_|omega);exact k.x):P:=h a ⟨k⟩
def FK{A P Q R:Prop}(a:A)(k:Q)(l:R)(h:A->Bx Q->Bx R->P:=by intro a k l;(with_reducible repeat' first|refine Xk ?_<;>try simp[a]|refine Xs ?_ ?_<;>intro h<;>(try intro b)<;>(try simp[h,a])<;>try omega|refine Xg ?_|omega);(revert h;exact k.x);(revert h;exact l.x)):P:=h a ⟨k⟩ ⟨l⟩
def ko{A B P Q:Prop}(b:A)(a:B)(k:Q)(h:A->B->Bx Q->P:=by intro b a k;(with_reducible repeat' first|refine Xk ?_<;>try simp[b,a]|refine Xs ?_ ?_<;>intro h<;>(try intro c)<;>(try simp[h,b,a])<;>try omega|refine Xg ?_|omega);exact k.x):P:=h b a ⟨k⟩
def afI{A B C P:Prop}(c:A)(b:B)(a:C)(h:A->B->C->P:=by intro c b a;(with_reducible repeat' first|refine Xk ?_<;>try simp[c,b,a]|refine Xs ?_ ?_<;>intro h<;>(try intro d)<;>(try simp[h,c,b,a])<;>try omega|refine Xg ?_|omega)):P:=h c b a
def kf{A B C P Q:Prop}(c:A)(b:B)(a:C)(k:Q)(h:A->B->C->Bx Q->P:=by intro c b a k;(with_reducible repeat' first|refine Xk ?_<;>try simp[c,b,a]|refine Xs ?_ ?_<;>intro h<;>(try intro d)<;>(try simp[h,c,b,a])<;>try omega|refine Xg ?_|omega);exact k.x):P:=h c b a ⟨k⟩
def YZ{A B C P Q R:Prop}(c:A)(b:B)(a:C)(k:Q)(l:R)(h:A->B->C->Bx Q->Bx R->P:=by intro c b a k l;(with_reducible repeat' first|refine Xk ?_<;>try simp[c,b,a]|refine Xs ?_ ?_<;>intro h<;>(try intro d)<;>(try simp[h,c,b,a])<;>try omega|refine Xg ?_|omega);(revert h;exact k.x);(revert h;exact l.x)):P:=h c b a ⟨k⟩ ⟨l⟩
def pM{A B C D P Q:Prop}(d:A)(c:B)(b:C)(a:D)(k:Q)(h:A->B->C->D->Bx Q->P:=by intro d c b a k;(with_reducible repeat' first|refine Xk ?_<;>try simp[d,c,b,a]|refine Xs ?_ ?_<;>intro h<;>(try intro e)<;>(try simp[h,d,c,b,a])<;>try omega|refine Xg ?_|omega);exact k.x):P:=h d c b a ⟨k⟩
