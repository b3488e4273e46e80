/- Part 10 of DisputeMatchesReference. -/
import Derived.Test.YtmehofoficaelaaGreatDoorM09
set_option linter.all false
open Option renaming some→aE,none→cj,bind_some→dr
open List renaming getElem?_eq_getElem→bb,getD_eq_getElem?_getD→bs,length_map→dx,replicate→eh,map_cons→ek,length→List.l
open Bool renaming true→b4,false→cp
open Nat renaming le_refl→di,beq→en
open Int renaming toNat→Int.n
namespace Go.AL
open Go
universe u
inductive Tag{α:Sort u}(a:α):Type
 | mk
def oA{α:Type}(x:Option α)(P:α->Prop)(_:Tag P):Prop:=∃a,x=aE a/\P a
@[simp] theorem BB{α:Type}(a:α)(P:α->Prop):oA (aE a) P .mk=P a:=by simp[oA]
@[simp] theorem abz{α:Type}(P:α->Prop):oA cj P .mk=False:=by simp[oA]
@[simp high] theorem Dz{α:Type}{c:Prop}[Decidable c](x:Option α)(P:α->Prop):oA (if c then x else cj) P .mk=(c/\oA x P .mk):=by by_cases h:c<;>simp[h]
@[simp] theorem ayk{α:Type}{c:Prop}[Decidable c](x y:Option α)(P:α->Prop):oA (if c then x else y) P .mk=((c->oA x P .mk)/\(¬c->oA y P .mk)):=by by_cases h:c<;>simp[h]
@[simp] theorem ayl(x:Option D)(P:D×Dl->Prop):oA (lift x) P .mk=oA x (λd=>P (d,.no)) .mk:=by cases x<;>simp[lift]
@[simp] theorem ax8{α b:Type}(x:Option α)(f:α->Option b)(P:b->Prop):oA (x.bind f) P .mk=oA x (λa=>oA (f a) P .mk) .mk:=by cases x<;>simp
def gB:D->Bool->Option Bool
 | .val (.bool b),want=>aE (b == want)
 | .val (.tuple _),_=>aE cp
 | _,_=>cj
@[simp] theorem avM(a:Bool):gB (.val undef) a=aE false:=rfl
@[simp] theorem avL(x:Bool):gB (.b x) b4=aE x:=by cases x<;>rfl
@[simp] theorem avK(x:Bool):gB (.b x) cp=aE (!x):=by cases x<;>rfl
@[simp] theorem avY(f:il):guardOf f cj=aE true:=rfl
@[simp] theorem avZ(f:il)(j:Nat)(w:Bool):guardOf f (aE (j,w))=gB (f j) w:=by show(match f j with | .val (.bool b)=>aE (b == w) | .val (.tuple _)=>aE cp|_=>cj)=gB (f j) w;unfold gB;split<;>simp_all
@[simp] theorem ave(f:il)(k:Nat):ev f (.t k)=f k:=rfl
@[simp] theorem avd(f:il)(d:D):ev f (.c d)=d:=rfl
@[simp] theorem azi(env:Env)(k:Nat)(d:D):put env (aE k) d=(k,d)::env:=rfl
@[simp] theorem azh(env:Env)(d:D):put env cj d=env:=rfl
@[simp] theorem asU(H:gg)(al:Al):Dl.no.app H al=H:=rfl
@[simp] theorem asT(H:gg)(al:Al)(ob:Ob):(Dl.new ob).app H al=al.2 ob:=rfl
@[simp] theorem asV(H:gg)(al:Al)(v:Nat)(ob:Ob):(Dl.obj v ob).app H al=H.set v ob:=rfl
def setCells(H:gg)(v o:Nat)(xs:List D):Option Ob->gg
 | some (.row t g cs)=>H.set v (.row t g (cs.take o++xs++cs.drop (o+xs.l)))
 | _=>H
@[simp] theorem asQ(H:gg)(al:Al)(v o:Nat)(xs:List D):(Dl.cells v o xs).app H al=setCells H v o xs H[v]? := by show(match H[v]? with|some (.row t g cs)=>H.set v (.row t g (cs.take o++xs++cs.drop (o+xs.l)))|_=>H)=_;unfold setCells;split<;>simp_all
@[simp] theorem azO(H:gg)(v o:Nat)(xs:List D)(t g:Nat)(cs:List D):setCells H v o xs (aE (.row t g cs))=H.set v (.row t g (cs.take o++xs++cs.drop (o+xs.l))):=rfl
def zY(k:IntKind)(a b:Int):Int:=k.wrap (a*2 ^ (min b.n k.bits))
def nu(k:IntKind)(a b:Int):Int:=a.fdiv (2 ^ (min b.n k.bits))
section
variable{k:IntKind}{a b:Int}
@[simp] theorem atb:lQ .add (.val (.int k a)) (.val (.int k b))=kA .add k a b:=by simp[lQ,rC]
@[simp] theorem atr:lQ .sub (.val (.int k a)) (.val (.int k b))=kA .sub k a b:=by simp[lQ,rC]
@[simp] theorem atj:lQ .mul (.val (.int k a)) (.val (.int k b))=kA .mul k a b:=by simp[lQ,rC]
@[simp] theorem atm:lQ .quo (.val (.int k a)) (.val (.int k b))=kA .quo k a b:=by simp[lQ,rC]
@[simp] theorem atn:lQ .rem (.val (.int k a)) (.val (.int k b))=kA .rem k a b:=by simp[lQ,rC]
@[simp] theorem atc:lQ .and (.val (.int k a)) (.val (.int k b))=aE (.val (.int k (bits .and k a b))):=by simp[lQ,rC,kA]
@[simp] theorem atl:lQ .or (.val (.int k a)) (.val (.int k b))=aE (.val (.int k (bits .or k a b))):=by simp[lQ,rC,kA]
@[simp] theorem ats:lQ .xor (.val (.int k a)) (.val (.int k b))=aE (.val (.int k (bits .xor k a b))):=by simp[lQ,rC,kA]
@[simp] theorem atd:lQ .andNot (.val (.int k a)) (.val (.int k b))=aE (.val (.int k (bits .andNot k a b))):=by simp[lQ,rC,kA]
@[simp] theorem ate:lQ .eql (.val (.int k a)) (.val (.int k b))=aE (.b (decide (a=b))):=by simp[lQ,rC,kA,BEq.beq]
@[simp] theorem atk:lQ .neq (.val (.int k a)) (.val (.int k b))=aE (.b (!decide (a=b))):=by simp[lQ,rC,kA,bne,BEq.beq]
@[simp] theorem ati:lQ .lss (.val (.int k a)) (.val (.int k b))=aE (.b (decide (a<b))):=by simp[lQ,rC,kA]
@[simp] theorem ath:lQ .leq (.val (.int k a)) (.val (.int k b))=aE (.b (decide (a<=b))):=by simp[lQ,rC,kA]
@[simp] theorem atg:lQ .gtr (.val (.int k a)) (.val (.int k b))=aE (.b (decide (a>b))):=by simp[lQ,rC,kA]
@[simp] theorem atf:lQ .geq (.val (.int k a)) (.val (.int k b))=aE (.b (decide (a>=b))):=by simp[lQ,rC,kA]
@[simp] theorem ato{k2:IntKind}:lQ .shl (.val (.int k a)) (.val (.int k2 b))=if 0<=b then aE (.val (.int k (zY k a b)))else none:=rfl
@[simp] theorem atp{k2:IntKind}:lQ .shr (.val (.int k a)) (.val (.int k2 b))=if 0<=b then aE (.val (.int k (nu k a b)))else none:=rfl
@[simp] theorem atq(op:BinOp)(s t:ByteArray):lQ op (.val (.string s)) (.val (.string t))=Gn op s t:=rfl
@[simp] theorem aBl(x:Bool):Gs .not (.b x)=aE (.b !x):=rfl
@[simp] theorem aBk(n:Int):Gs .neg (.i n)=if pj (-n)then aE (.i (-n))else none:=rfl
@[simp] theorem au1(b:IntKind):NY b (.val (.int k a))=aE (.val (.int b (b.wrap a))):=rfl
end
@[simp] theorem avk(off v g o:Nat):HZ off (.ptr v g o)=aE (.ptr v g (o+off)):=rfl
@[simp] theorem avj(off:Nat)(cs:List D):HZ off (.gH cs)=aE (.gH (cs.drop off)):=rfl
@[simp] theorem avl(off n:Nat)(cs:List D):Cy off n b4 (.agg cs)=if off+n<=cs.l then aE (.agg ((cs.drop off).take n))else none:=rfl
@[simp] theorem avm(off n:Nat)(cs:List D):Cy off n cp (.agg cs)=cs[off]? := rfl
@[simp] theorem avf(ds:List D)(i:Nat):Oh (.tup ds) i=ds[i]? := rfl
@[simp] theorem axR(v g o:Nat):Dw (.ptr v g o)=aE (.ptr v g o):=rfl
@[simp] theorem axQ(cs:List D):Dw (.gH cs)=aE (.gH cs):=rfl
@[simp] theorem axP(f:FuncId)(a b:List D):Dw (.fn (.func f) a b)=aE (.fn (.func f) a b):=rfl
@[simp] theorem axS(v:Nat):Dw (.jt v)=aE (.jt v):=rfl
def rowOf(k:Nat):Option Ob->Option (TypeId×List D)
 | some (.row t g cs)=>if g=k then aE (t,cs)else cj
 | _=>cj
@[simp] theorem ao9(H:gg)(v k:Nat):rowAt H v k=rowOf k H[v]? := by unfold rowAt rowOf;split<;>simp_all
@[simp] theorem azN(k:Nat)(t:TypeId)(g:Nat)(cs:List D):rowOf k (aE (.row t g cs))=if g=k then aE (t,cs)else none:=rfl
@[simp] theorem awS(v g o:Nat)(H:gg):yC (.ptr v g o) H=(rowAt H v g).bind λp=>p.2[o]? := by show(match rowAt H v g with|some (_,cs)=>cs[o]? | none=>cj)=_;cases rowAt H v g<;>rfl
@[simp] theorem awR(cs:List D)(H:gg):yC (.gH cs) H=cs[0]? := rfl
def wD(n o:Nat):Option (TypeId×List D)->Option D
 | some p=>if o+n<=p.2.l then aE (.agg ((p.2.drop o).take n))else cj
 | none=>cj
@[simp] theorem awZ(n o:Nat):wD n o cj=none:=rfl
@[simp low] theorem aw0(n o:Nat)(p:TypeId×List D):wD n o (aE p)=if o+n<=p.2.l then aE (.agg ((p.2.drop o).take n))else none:=rfl
@[simp] theorem awU(n v g o:Nat)(H:gg):xH n (.ptr v g o) H=wD n o (rowAt H v g):=by show(match rowAt H v g with|some (_,cs)=>if o+n<=cs.l then aE (D.agg ((cs.drop o).take n))else cj|none=>cj)=_;cases rowAt H v g<;>rfl
@[simp] theorem awT(n:Nat)(cs:List D)(H:gg):xH n (.gH cs) H=if n<=cs.l then aE (.agg (cs.take n))else none:=rfl
@[simp] theorem aAN(v g o:Nat)(x:D)(H:gg):DW (.ptr v g o) x H=(rowAt H v g).bind λp=>if o<p.2.l/\one x=b4 then aE (.any,.cells v o [x])else none:=by show(match rowAt H v g with|some (_,cs)=>if o<cs.l/\one x=b4 then aE (D.any,Dl.cells v o [x])else cj|none=>cj)=_;cases rowAt H v g<;>rfl
@[simp] theorem aAO(n v g o:Nat)(xs:List D)(H:gg):DX n (.ptr v g o) (.agg xs) H=(rowAt H v g).bind λp=>if xs.l=n/\o+n<=p.2.l then aE (.any,.cells v o xs)else none:=by show(match rowAt H v g with|some (_,cs)=>if xs.l=n/\o+n<=cs.l then aE (D.any,Dl.cells v o xs)else cj|none=>cj)=_;cases rowAt H v g<;>rfl
@[simp] theorem aty(t:TypeId)(cs:List D)(n:Nat):uk t (.agg cs) n=aE (.ptr n 0 0,.new (.row t 0 cs)):=rfl
@[simp] theorem atV(cs:List D):cellsOf (.agg cs)=aE cs:=rfl
@[simp] theorem at7(k:IntKind)(n:Int):cellsOf (.val (.int k n))=aE [.val (.int k n)]:=rfl
@[simp] theorem atW(b:Bool):cellsOf (.b b)=aE [.b b]:=rfl
@[simp] theorem aue(b:ByteArray):cellsOf (.val (.string b))=aE [.val (.string b)]:=rfl
@[simp] theorem aud(sz:Nat)(es:List (List D)):cellsOf (.sl sz es)=aE [.sl sz es]:=rfl
@[simp] theorem atY(l:List Int):cellsOf (dI l)=aE [dI l]:=rfl
@[simp] theorem at1(l:List Pos):cellsOf (gT l)=aE [gT l]:=rfl
@[simp] theorem at0(l:List gj):cellsOf (iu l)=aE [iu l]:=rfl
@[simp] theorem atZ{α:Type}(sz:Nat)(f:α->List D)(l:List α):cellsOf (dN sz f l)=aE [dN sz f l]:=by cases l<;>rfl
@[simp] theorem at4:cellsOf .gp=aE [.gp]:=rfl
@[simp] theorem aub(v g sz off n:Nat):cellsOf (.gh v g sz off n)=aE [.gh v g sz off n]:=rfl
@[simp] theorem auc(v g o:Nat):cellsOf (.ptr v g o)=aE [.ptr v g o]:=rfl
@[simp] theorem at6(cs:List D):cellsOf (.gH cs)=aE [.gH cs]:=rfl
@[simp] theorem aua(v:Nat):cellsOf (.gM v)=aE [.gM v]:=rfl
@[simp] theorem at5(f:Fn)(a b:List D):cellsOf (.fn f a b)=aE [.fn f a b]:=rfl
@[simp] theorem ayW(k:IntKind)(n:Int):one (.val (.int k n))=true:=rfl
@[simp] theorem ayN(b:Bool):one (.b b)=true:=rfl
@[simp] theorem ay1(b:ByteArray):one (.val (.string b))=true:=rfl
@[simp] theorem ay0(sz:Nat)(es:List (List D)):one (.sl sz es)=true:=rfl
@[simp] theorem ayP(l:List Int):one (dI l)=true:=rfl
@[simp] theorem ayR(l:List Pos):one (gT l)=true:=rfl
@[simp] theorem ayQ(l:List gj):one (iu l)=true:=rfl
@[simp] theorem ayT:one .gp=true:=rfl
@[simp] theorem ayY(v g sz off n:Nat):one (.gh v g sz off n)=true:=rfl
@[simp] theorem ayZ(v g o:Nat):one (.ptr v g o)=true:=rfl
@[simp] theorem ayV(cs:List D):one (.gH cs)=true:=rfl
@[simp] theorem ayX(v:Nat):one (.gM v)=true:=rfl
@[simp] theorem ayU(f:Fn)(a b:List D):one (.fn f a b)=true:=rfl
@[simp] theorem atL(f:il)(z:List D)(ps:List (Nat×Nat×X)):EB f z ps=(partsOf f ps).bind λl=>(lay l z).bind λcs=>aE (D.agg cs):=by
 unfold EB;cases partsOf f ps with
 | none=>rfl
 | some l=>simp only[dr];cases lay l z<;>rfl
@[simp] theorem atJ(f:il)(t sz:Nat)(z:List D)(m:Nat)(ps:List (Nat×X))(n:Nat):AA f t sz z m ps n=(partsOf f (ps.map λp=>(p.1*sz,sz,p.2))).bind λl=>(lay l (eh m z).flatten).bind λcs=>aE (.gh n 0 sz 0 m,.new (.row t 0 cs)):=by
 unfold AA;cases partsOf f (ps.map λp=>(p.1*sz,sz,p.2))with
 | none=>rfl
 | some l=>simp only[dr];cases lay l (eh m z).flatten<;>rfl
@[simp] theorem ay9(f:il):partsOf f []=aE []:=rfl
@[simp] theorem ay8(f:il)(o n:Nat)(x:X)(r:List (Nat×Nat×X)):partsOf f ((o,n,x)::r)=(cellsOf (ev f x)).bind λcs=>(partsOf f r).bind λl=>aE ((o,n,cs)::l):=by show(match cellsOf (ev f x),partsOf f r with|some cs,aE l=>aE ((o,n,cs)::l)|_,_=>cj)=_;cases cellsOf (ev f x)<;>cases partsOf f r<;>rfl
@[simp] theorem ah8(vs:List Value)(k:IntKind)(n:Int):ni 1 (.mM vs) (.val (.int k n))=if 0<=n/\n<vs.l then aE (.gH [.val (vs.getD n.n undef)])else none:=by simp[ni]
@[simp] theorem aw8(vs:List Value)(H:gg):oa .slice (.mM vs) H=aE (.i vs.l):=rfl
@[simp] theorem awb(sz v g off len:Nat)(k:IntKind)(n:Int):ni sz (.gh v g sz off len) (.val (.int k n))=if 0<=n/\n<len then aE (.ptr v g ((off+n.n)*sz))else none:=by simp[ni]
@[simp] theorem awd(sz n v g o:Nat)(k:IntKind)(i:Int):I8 sz n (.ptr v g o) (.val (.int k i))=if 0<=i/\i<n then aE (.ptr v g (o+i.n*sz))else none:=rfl
@[simp] theorem awc(sz n:Nat)(cs:List D)(k:IntKind)(i:Int):I8 sz n (.gH cs) (.val (.int k i))=if 0<=i/\i<n then aE (.gH (cs.drop (i.n*sz)))else none:=rfl
@[simp] theorem awe(sz n:Nat)(b:Bool)(cs:List D)(k:IntKind)(i:Int):Ps sz n b (.agg cs) (.val (.int k i))=if 0<=i/\i<n then Cy (i.n*sz) sz b (.agg cs)else none:=rfl
@[simp] theorem atx(f:il)(n:Int):iC f cj n=aE n:=rfl
def vm:D->Option Int
 | .val (.int _ n)=>aE n
 | _=>cj
@[simp] theorem awg(k:IntKind)(n:Int):vm (.val (.int k n))=aE n:=rfl
@[simp] theorem Wn(f:il)(x:X)(n:Int):iC f (aE x) n=vm (ev f x):=by show(match ev f x with | .val (.int _ n)=>aE n|_=>cj)=_;unfold vm;split<;>simp_all
@[simp] theorem U'(f:il)(sz:Nat)(es:List (List D))(lo hi:Option X):vH f sz (.sl sz es) lo hi=(iC f lo 0).bind λl=>(iC f hi es.l).bind λh=>if 0<=l/\l<=h/\h<=es.l then aE (.sl sz ((es.drop l.n).take (h.n-l.n)))else none:=by simp only[vH];cases iC f lo 0<;>cases iC f hi es.l<;>simp
@[simp] theorem aAD(f:il)(sz v g off len:Nat)(lo hi:Option X):vH f sz (.gh v g sz off len) lo hi=(iC f lo 0).bind λl=>(iC f hi len).bind λh=>if 0<=l/\l<=h/\h<=len then aE (.gh v g sz (off+l.n) (h.n-l.n))else none:=by simp only[vH];cases iC f lo 0<;>cases iC f hi len<;>simp
@[simp] theorem aAC(f:il)(sz:Nat)(lo hi:Option X):vH f sz .gp lo hi=(iC f lo 0).bind λl=>(iC f hi 0).bind λh=>if l=0/\h=0 then aE .gp else none:=by simp only[vH];cases iC f lo 0<;>cases iC f hi 0<;>simp
@[simp] theorem apF(f:il)(sz:Nat)(es:List (List D))(lo:Option X)(hi mx:X):zZ f sz (.sl sz es) lo hi mx=(iC f lo 0).bind λl=>(vm (ev f hi)).bind λh=>(vm (ev f mx)).bind λm=>if 0<=l/\l<=h/\h=m/\m<=es.l then aE (clip sz ((es.drop l.n).take (h.n-l.n)))else none:=by simp only[zZ,Wn];cases iC f lo 0<;>cases vm (ev f hi)<;>cases vm (ev f mx)<;>simp
@[simp] theorem aAx(f:il)(sz:Nat)(lo:Option X)(hi mx:X):zZ f sz .gp lo hi mx=(iC f lo 0).bind λl=>(vm (ev f hi)).bind λh=>(vm (ev f mx)).bind λm=>if l=0/\h=0/\m=0 then aE .gp else none:=by simp only[zZ,Wn];cases iC f lo 0<;>cases vm (ev f hi)<;>cases vm (ev f mx)<;>simp
@[simp] theorem aAy(f:il)(sz n v g o:Nat)(lo hi:Option X)(H:gg):BQ f sz n (.ptr v g o) lo hi H=(iC f lo 0).bind λl=>(iC f hi n).bind λh=>(rowAt H v g).bind λp=>if o % sz=0/\o+n*sz<=p.2.l/\n<=16777216/\0<=l/\l<=h/\h<=n then aE (.gh v g sz (o / sz+l.n) (h.n-l.n))else none:=by
 simp only[BQ]
 cases iC f lo 0 with
 | none=>rfl
 | some l=>cases iC f hi n with
  | none=>rfl
  | some h=>dsimp only;cases rowAt H v g<;>rfl
def Qt{α:Type}(f:α->List D)(l:List α)(a b:Nat):((l.map f).drop a).take b=((l.drop a).take b).map f:=by rw[List.map_take,List.map_drop]
@[simp] theorem aAA(f:il)(l:List Pos)(lo hi:Option X):vH f 5 (gT l) lo hi=(iC f lo 0).bind λa=>(iC f hi l.l).bind λh=>if 0<=a/\a<=h/\h<=l.l then aE (gT ((l.drop a.n).take (h.n-a.n)))else none:=by unfold gT;rw[U',dx];simp only[Qt]
@[irreducible] def cl{α:Type}(f:α->List D)(l:List α):List D:=(l.map f).flatten
theorem pN{α:Type}(f:α->List D)(l:List α):cl f l=(l.map f).flatten:=by rw[cl]
@[simp] theorem apJ(sz:Nat)(H:gg)(es:List (List D)):lN sz H (.sl sz es)=aE (es.flatten,es.l):=by simp[lN]
@[simp] theorem Gi{α:Type}(sz:Nat)(f:α->List D)(H:gg)(l:List α):lN sz H (.sl sz (l.map f))=aE (cl f l,l.l):=by rw[apJ,dx,pN]
@[simp] theorem aAE(H:gg)(l:List Int):lN 1 H (dI l)=aE (cl f1 l,l.l):=by unfold dI;exact Gi ..
@[simp] theorem aAI(H:gg)(l:List Pos):lN 5 H (gT l)=aE (cl Pos.cells l,l.l):=by unfold gT;exact Gi ..
@[simp] theorem aAH(H:gg)(l:List gj):lN 2 H (iu l)=aE (cl fS l,l.l):=by unfold iu;exact Gi ..
@[simp] theorem aAF{α:Type}(sz:Nat)(f:α->List D)(H:gg)(l:List α):lN sz H (dN sz f l)=aE (cl f l,l.l):=by
 cases l with
 | nil=>show aE ([],0)=_;rw[pN];rfl
 | cons a l=>exact Gi sz f H (a::l)
@[simp] theorem aAK(sz:Nat)(H:gg):lN sz H .gp=aE ([],0):=rfl
@[simp] theorem aAM(sz:Nat)(H:gg)(v g off len:Nat):lN sz H (.gh v g sz off len)=(rowAt H v g).bind λp=>if (off+len)*sz<=p.2.l then aE ((p.2.drop (off*sz)).take (len*sz),len)else none:=by simp only[lN];cases rowAt H v g<;>simp
@[simp] theorem asW(t sz bytes v g len:Nat)(y:D)(H:gg)(a:Nat):uj t sz bytes (.gh v g sz 0 len) y H a=(lN sz H y).bind λq=>(rowAt H v g).bind λr=>if r.1=t/\len*sz<=r.2.l/\(len+q.2)*bytes<=140737488355328/\len+q.2<=9223372036854775807 then aE (.gh v (g+1) sz 0 (len+q.2),.obj v (.row t (g+1) (r.2.take (len*sz)++q.1)))else none:=by
 simp only[uj]
 cases lN sz H y with
 | none=>rfl
 | some q=>cases rowAt H v g<;>simp
@[simp] theorem ady(t bytes:Nat)(vs:List Value)(y:D)(H:gg)(a:Nat):uj t 1 bytes (.mM vs) y H a=(lN 1 H y).bind λq=>if q.2≠0/\(vs.l+q.2)*bytes<=140737488355328/\vs.l+q.2<=9223372036854775807 then aE (.gh a 0 1 0 (vs.l+q.2),.new (.row t 0 (vs.map .val++q.1)))else none:=by simp only[uj];cases lN 1 H y<;>simp
@[simp] theorem asR(t sz bytes:Nat)(y:D)(H:gg)(a:Nat):uj t sz bytes .gp y H a=(lN sz H y).bind λq=>if q.2=0 then aE (.gp,.no)else if q.2*bytes<=140737488355328/\q.2<=9223372036854775807 then aE (.gh a 0 sz 0 q.2,.new (.row t 0 q.1))else none:=by simp only[uj];cases lN sz H y<;>rfl
@[simp] theorem axJ(t sz bytes:Nat)(z:List D)(k a:IntKind)(n m:Int)(v:Nat):FX t sz bytes z (.val (.int k n)) (.val (.int a m)) v=if 0<=n/\n<=m/\sM m 9223372036854775807/\sM ((bytes:Int)*m) 281474976710656 then aE (.gh v 0 sz 0 n.n,.new (.row t 0 (eh m.n z).flatten))else none:=rfl
@[simp] theorem aw2(n:Int)(k:Nat):sM n k=(n<=(k:Int)):=rfl
@[simp] theorem awi(f:il):tq f []=aE []:=rfl
def TJ:D->Option Int
 | .val (.int .i64 n)=>aE n
 | _=>cj
@[simp] theorem awa(n:Int):TJ (.i n)=aE n:=rfl
@[simp] theorem awh(f:il)(x:X)(r:List X):tq f (x::r)=(TJ (ev f x)).bind λn=>(tq f r).bind λl=>aE (n::l):=by
 show(match ev f x,tq f r with | .val (.int .i64 n),aE l=>aE (n::l)|_,_=>cj)=_;unfold TJ;split
 .rename_i h1 b;rw[h1,b];rfl
 .rename_i h;split
  .rename_i n a
   cases hl:tq f r with
   | none=>rfl
   | some l=>exact absurd hl (h _ _ a)
  .rfl
def Ul(d:Bool):List Int->Option D
 | [a,b]=>aE (.i (if d then max a b else min a b))
 | [a,b,c]=>aE (.i (if d then max (max a b) c else min (min a b) c))
 | _=>cj
@[simp] theorem mm2(m:Bool)(a b:Int):Ul m [a,b]=aE (.i (if m then max a b else min a b)):=rfl
@[simp] theorem axI(f:il)(m:Bool)(xs:List X):FV f m xs=(tq f xs).bind (Ul m):=by
 unfold FV
 cases tq f xs with
 | none=>rfl
 | some l=>simp only[dr];unfold Ul;split<;>simp_all
@[simp] theorem atN(f:il)(g:FuncId)(args:List X):lB f (.call g args)=aE (g,args.map (ev f)):=rfl
def NJ(args:List D):D->Option (FuncId×List D)
 | .fn (.func k) first cap=>aE (k,first++args++cap)
 | _=>cj
@[simp] theorem atM(args:List D)(k:FuncId)(first cap:List D):NJ args (.fn (.func k) first cap)=aE (k,first++args++cap):=rfl
@[simp] theorem adW(f:il)(g:X)(args:List X):lB f (.callv g args)=NJ (args.map (ev f)) (ev f g):=by show(match ev f g with | .fn (.func k) first cap=>aE (k,first++args.map (ev f)++cap)|_=>cj)=_;unfold NJ;split<;>simp_all
def T0(z:D)(ok:Bool):Option D->D
 | some d=>if ok then .tup [d,.b b4]else d
 | none=>if ok then .tup [z,.b cp]else z
@[simp] theorem axt(z:D)(ok:Bool)(d:D):T0 z ok (aE d)=if ok then .tup [d,.b b4]else d:=rfl
@[simp] theorem axr(z:D)(ok:Bool):T0 z ok cj=if ok then .tup [z,.b cp]else z:=rfl
@[simp] theorem axu(kk:KK)(z:D)(ok:Bool)(v:Nat)(k:D)(H:gg):Dr kk z ok (.gM v) k H=(keyOf k).bind λkv=>(mq H v).bind λp=>if p.1=kk/\p.1.has kv=b4 then aE (T0 z ok (sP p.2 kv))else none:=by
 unfold Dr
 cases keyOf k with
 | none=>rfl
 | some kv=>
  cases h:mq H v with
  | none=>simp[h]
  | some p=>
   simp only[h,dr];split
   .cases sP p.2 kv<;>rfl
   .rfl
@[simp] theorem axG(kk:KK)(v:Nat)(k x:D)(H:gg):Bu kk (.gM v) k x H=(keyOf k).bind λkv=>(mq H v).bind λp=>if p.1=kk/\p.1.has kv=b4 then aE (.any,.obj v (.map p.1 (np p.2 kv x)))else none:=by
 unfold Bu
 cases keyOf k with
 | none=>rfl
 | some kv=>cases h:mq H v<;>simp[h]
def mapOf:Option Ob->Option (KK×List (Value×D))
 | some (.map kk es)=>aE (kk,es)
 | _=>cj
@[simp] theorem axF(kk:KK)(es:List (Value×D)):mapOf (aE (.map kk es))=aE (kk,es):=rfl
@[simp] theorem T9(H:gg)(v:Nat):mq H v=mapOf H[v]? := by unfold mq mapOf;split<;>simp_all
@[simp] theorem awJ(k:IntKind)(n:Int):tW (.int k n) = .val (.int k n):=rfl
@[simp] theorem awL(s:ByteArray):tW (.string s) = .val (.string s):=rfl
@[simp] theorem awI(b:Bool):tW (.bool b) = .b b:=rfl
@[simp] theorem awO(s:ByteArray):keyOf (.val (.string s))=aE (.string s):=rfl
@[simp] theorem awM(b:Bool):keyOf (.b b)=aE (.bool b):=rfl
@[simp] theorem awN(k:IntKind)(n:Int):keyOf (.val (.int k n))=aE (.int k n):=rfl
@[simp] theorem aw7(v:Nat)(H:gg):oa .map (.gM v) H=(mq H v).bind λp=>aE (.i p.2.l):=by simp only[oa];cases mq H v<;>rfl
@[simp] theorem avb(ls:List nI)(neg:Bool)(x y:D):Cq cp ls neg x y=(nL ls [x] [y]).bind λr=>aE (.b (if neg then !r else r)):=by simp only[Cq];cases nL ls [x] [y]<;>rfl
@[simp] theorem ava(ls:List nI)(neg:Bool)(x y:List D):Cq b4 ls neg (.agg x) (.agg y)=(nL ls x y).bind λr=>aE (.b (if neg then !r else r)):=by simp only[Cq];cases nL ls x y<;>rfl
@[simp] theorem atU:nL [] [] []=aE true:=rfl
@[simp] theorem atT(l:nI)(ls:List nI)(x y:D)(xs c:List D):nL (l::ls) (x::xs) (y::c)=(vV l x y).bind λa=>(nL ls xs c).bind λb=>aE (a&&b):=by show(match vV l x y,nL ls xs c with|some a,aE b=>aE (a&&b)|_,_=>cj)=_;cases vV l x y<;>cases nL ls xs c<;>rfl
@[simp] theorem atP(a b:Int):vV .int (.i a) (.i b)=aE (decide (a=b)):=by simp[vV,BEq.beq]
@[simp] theorem atO(a b:Bool):vV .bool (.b a) (.b b)=aE (a == b):=rfl
@[simp] theorem atQ(a b:ByteArray):vV .str (.val (.string a)) (.val (.string b))=aE (a.data.toList == b.data.toList):=rfl
attribute [simp] ie kill wL F' ik kC wX xL vT vS nv PR lay Al.last sP np oY KK.has gN
@[simp] theorem aBw(v g sz off n:Nat):oP (.gh v g sz off n) = [(v,cj)]:=rfl
@[simp] theorem aBv(v:Nat):oP (.gM v) = [(v,cj)]:=rfl
@[simp] theorem aBy(sz:Nat)(es:List (List D)):oP (.sl sz es) = []:=rfl
@[simp] theorem aBt:oP .gp = []:=rfl
@[simp] theorem aBz(v:Value):oP (.val v) = []:=rfl
@[simp] theorem aBq(cs:List D):oP (.agg cs) = []:=rfl
@[simp] theorem aBu(cs:List D):oP (.gH cs) = []:=rfl
@[simp] theorem aBx(v g o:Nat):oP (.ptr v g o) = []:=rfl
@[simp] theorem aBs(l:List Int):oP (dI l) = []:=by unfold dI;rfl
def XB(d:D)(P Q:Prop)(_:Tag (PProd.mk P Q)):Prop:=∃x,d = .b x/\(x=b4->P)/\(x=cp->Q)
def X2(x:Bool)(P Q:Prop)(_:Tag (PProd.mk P Q)):Prop:=(x=b4->P)/\(x=cp->Q)
@[simp] theorem aqF(P Q:Prop):X2 b4 P Q .mk=P:=by simp[X2]
@[simp] theorem aqC(P Q:Prop):X2 cp P Q .mk=Q:=by simp[X2]
@[simp] theorem aqD(x:Bool)(P Q:Prop):X2 (!x) P Q .mk=X2 x Q P .mk:=by cases x<;>simp[X2]
@[simp] theorem aqE(x y:Bool)(P Q:Prop):X2 (!x || !y) P Q .mk=X2 (x&&y) Q P .mk:=by cases x<;>cases y<;>simp[X2]
theorem X2.d{p:Prop}[Decidable p]{P Q:Prop}(h:p->P)(k:¬p->Q):X2 (decide p) P Q .mk:=⟨λe=>h (of_decide_eq_true e),λe=>k (of_decide_eq_false e)⟩
def X2.a{p q:Prop}[Decidable p][Decidable q]{P Q:Prop}(h:p->q->P)(k:¬(p/\q)->Q):X2 (decide p&&decide q) P Q .mk:=by rw[<-cu];exact X2.d (λe=>h e.1 e.2) k
def X2.o{p q:Prop}[Decidable p][Decidable q]{P Q:Prop}(h:p\/q->P)(k:¬(p\/q)->Q):X2 (decide p||decide q) P Q .mk:=by rw[<-fO];exact X2.d h k
def X2.z{p:Prop}[Decidable p]{P Q:Prop}(h:¬p)(k:Q):X2 (decide p) P Q .mk:=X2.d (λn=>absurd n h) (λ_=>k)
@[simp] theorem aqH(x:Bool)(a b:D)(P Q:Prop):XB (bif x then a else b) P Q .mk=X2 x (XB a P Q .mk) (XB b P Q .mk) .mk:=by cases x<;>simp
def X2.b{x:Bool}{P Q:Prop}(h:x=b4->P)(k:x=cp->Q):X2 x P Q .mk:=⟨h,k⟩
def Xg{p q:Prop}(b:q)(a:p:=by first|omega|assumption):p/\q:=⟨a,b⟩
@[simp] theorem aqG(x:Bool)(P Q:Prop):XB (.b x) P Q .mk=X2 x P Q .mk:=by cases x<;>simp[XB,X2]
@[simp high] theorem aqJ(P Q:Prop):XB (.b b4) P Q .mk=P:=by simp[XB]
@[simp high] theorem aqI(P Q:Prop):XB (.b cp) P Q .mk=Q:=by simp[XB]
def XG(g:Option Bool)(P Q:Prop)(_:Tag (PProd.mk P Q)):Prop:=∃x,g=aE x/\(x=b4->P)/\(x=cp->Q)
@[simp] theorem aqZ(x:Bool)(P Q:Prop):XG (aE x) P Q .mk=X2 x P Q .mk:=by cases x<;>simp[XG,X2]
@[simp high] theorem aq2(P Q:Prop):XG (aE b4) P Q .mk=P:=by simp[XG]
@[simp high] theorem aq1(P Q:Prop):XG (aE cp) P Q .mk=Q:=by simp[XG]
@[simp] theorem aq0(x w:Bool)(a b:D)(P Q:Prop):XG (gB (bif x then a else b) w) P Q .mk=X2 x (XG (gB a w) P Q .mk) (XG (gB b w) P Q .mk) .mk:=by cases x<;>simp
def kp(s:St)(dst:Option Nat)(K:St->Prop):D×Dl->Prop:=λp=>K { s with env:=put s.env dst p.1,H:=p.2.app s.H (Al.last s.H) }
def kt(s:St)(dst:Option Nat)(R:List Fp)(Q:Rc->St->Prop):D×Dl->Prop:=λp=>Q ⟨R,kC s.H.l p.2⟩ { s with env:=put s.env dst p.1,H:=p.2.app s.H (Al.last s.H) }
section
variable(T:iL)
def gE(f:FuncId)(args:List D)(dst:Option Nat)(s:St)(K:St->Prop)(_:Tag (dst,s,K)):Prop:=
 (∃fn,T.fn f=aE fn/\fn.full=cp/\Wf T f (args.map (gA (λ_=>cj) s.H 40)) [] λd Hn=>oA (after s dst args d Hn) K .mk) \/
 (∃fn,T.fn f=aE fn/\fn.full=b4/\Wf T f args s.H λd H'=>K { s with env:=put s.env dst d,H:=H' })
def ji(f:FuncId)(args:List D)(R:List Fp)(dst:Option Nat)(s:St)(Q:Rc->St->Prop)(_:Tag (dst,s,Q)):Prop:=
 ∃fn d,T.fn f=aE fn/\fn.full=cp/\Wf T f (args.map (gA (λ_=>cj) s.H 40)) [] (λd' Hn=>d'=d/\Hn = [])/\(if gN args then closed d else flat d)=b4/\Q ⟨R,[]⟩ { s with env:=put s.env dst d }
def vQ(f:FuncId)(args:List D)(R:List Fp)(dst:Option Nat)(s:St)(Q:Rc->St->Prop)(t:Tag (dst,s,Q)):Prop:=
 ji T f args R dst s Q t\/∃fn d ob,T.fn f=aE fn/\fn.full=cp/\Wf T f (args.map (gA (λ_=>cj) s.H 40)) [] (λd' Hn=>d'=d/\Hn = [ob]) /\
  (if gN args then od d&&pq ob else p5 d&&rl ob)=b4/\Q ⟨R,[(s.H.l,cj)]⟩ { s with env:=put s.env dst (lz s.H.l d),H:=s.H ++ [ob] }
def vR(f:FuncId)(args:List D)(R:List Fp)(dst:Option Nat)(s:St)(Q:Rc->St->Prop)(t:Tag (dst,s,Q)):Prop:=
 vQ T f args R dst s Q t\/∃fn d v,T.fn f=aE fn/\fn.full=cp/\(∀u∈(args.map (iO s.H 40)).flatten,u=v)/\v∈(args.map (iO s.H 40)).flatten/\(rowsOf s.H v).isSome=b4 /\
  gN (args.map (gA (λ_=>cj) s.H 40))=b4/\Wf T f (args.map (gA (λ_=>cj) s.H 40)) [] (λd' Hn=>d'=d/\Hn = [])/\closed d=b4/\Q ⟨R,[(v,cj)]⟩ { s with env:=put s.env dst d,H:=s.H.set v .dead }
def DG(v rf:Nat)(dst:Option Nat)(s:St)(K:St->Prop):ju:=λo=>∃a,o.st.H[v]? = aE (.iE rf a .busy)/\K { s with env:=put s.env dst (.b !o.stop),H:=o.st.H.set v (.iE rf a o.BN) }
def sD(v:Nat)(args:List D)(dst:Option Nat)(s:St)(K:St->Prop)(_:Tag (dst,s,K)):Prop:=
 ∃rf env0 Rd,s.H[v]? = aE (.iE rf env0 .ready)/\T.round rf=aE Rd/\args.l=Rd.params.l /\
  Wc T Rd.a { env:=vG Rd.params args env0,H:=s.H,iM:=b4 } λo=>∃s1 a,o = .norm s1/\s1.H[v]? = aE (.iE rf a .ready)/\Wc T Rd.b { s1 with H:=s1.H.set v (.iE rf a .busy) } (DG v rf dst s K)
def x6(d:D)(args:List D)(dst:Option Nat)(s:St)(K:St->Prop)(t:Tag (dst,s,K)):Prop:=
 match d with
 | .jt v=>sD T v args dst s K t
 | d=>oA (NJ args d) (λp=>gE T p.1 p.2 dst s K t) .mk
def vP(x:D)(dst:Option Nat)(s:St)(K:St->Prop)(_:Tag (dst,s,K)):Prop:=
 ∃v m since seen kk es,x = .ptr v 0 0/\s.H[v]? = aE (.jG (.gM m) since seen)/\s.H[m]? = aE (.map kk es)/\es.l=since /\
  ((∀i,i<es.l->i∈seen)->K { s with env:=put s.env dst (.tup [.b cp]) }) /\
  (∀i k d,es[i]? = aE (k,d)->i ∉ seen->K { s with env:=put s.env dst (.tup [.b b4,tW k,d]),H:=s.H.set v (.jG (.gM m) since (seen ++ [i])) })
def jn(op:jh)(dst:Option Nat)(s:St)(K:St->Prop):Prop:=
 match op with
 | .call f args=>gE T f (args.map (ev s.env.get)) dst s K .mk
 | .callN f args=>gE T f (args.map (ev s.env.get)) dst s K .mk
 | .callv f args=>x6 T (ev s.env.get f) (args.map (ev s.env.get)) dst s K .mk
 | .nilS a b=>oA (nv s.env.get s.H s.H.l (.nilS a b)) (kp s dst K) .mk
 | .capE a=>oA (nv s.env.get s.H s.H.l (.capE a)) (kp s dst K) .mk
 | .appZ a b c d e f=>oA (nv s.env.get s.H s.H.l (.appZ a b c d e f)) (kp s dst K) .mk
 | .clr a b c=>oA (nv s.env.get s.H s.H.l (.clr a b c)) (kp s dst K) .mk
 | .rangeS a=>oA (nv s.env.get s.H s.H.l (.rangeS a)) (kp s dst K) .mk
 | .nextS a=>oA (nv s.env.get s.H s.H.l (.nextS a)) (kp s dst K) .mk
 | .rangeM a=>oA (nv s.env.get s.H s.H.l (.rangeM a)) (kp s dst K) .mk
 | .entry a=>oA (nv s.env.get s.H s.H.l (.entry a)) (kp s dst K) .mk
 | .mapEnt a b c d=>oA (nv s.env.get s.H s.H.l (.mapEnt a b c d)) (kp s dst K) .mk
 | .entSt a b c=>oA (nv s.env.get s.H s.H.l (.entSt a b c)) (kp s dst K) .mk
 | .nextM a=>vP (ev s.env.get a) dst s K .mk
 | op=>oA (ie s.env.get s.H s.H.l op) (kp s dst K) .mk
def ky(op:jh)(dst:Option Nat)(s:St)(Q:Rc->St->Prop):Prop:=
 match op with
 | .call f args=>ji T f (args.map (ev s.env.get)) (ik s.env.get s.H (.call f args)) dst s Q .mk
 | .callN f args=>vR T f (args.map (ev s.env.get)) (ik s.env.get s.H (.callN f args)) dst s Q .mk
 | .callv f args=>oA (lB s.env.get (.callv f args)) (λp=>ji T p.1 p.2 (ik s.env.get s.H (.callv f args)) dst s Q .mk) .mk
 | op=>oA (ie s.env.get s.H s.H.l op) (kt s dst (ik s.env.get s.H op) Q) .mk
def XO:List iz->St->(St->Prop)->Prop
 | [],s,K=>K s
 | e::r,s,K=>XG (guardOf s.env.get e.guard) (jn T e.op e.dst s λa=>XO r a K) (XO r { s with env:=put s.env e.dst (.val undef) } K) .mk
def XT:List iz->St->(List Rc->St->Prop)->Prop
 | [],s,K=>K [] s
 | e::r,s,K=>XG (guardOf s.env.get e.guard) (ky T e.op e.dst s λrc b=>XT r b λrs a=>K (rc::rs) a) (XT r { s with env:=put s.env e.dst (.val undef) } λrs a=>K (⟨[],[]⟩::rs) a) .mk
end
section
variable{T:iL}
theorem Uq{α:Type}{x:Option α}{P Q:α->Prop}{t:Tag P}{u:Tag Q}(h:oA x P t)(hi:∀a,P a->Q a):oA x Q u:=by obtain⟨a,h1,b⟩:=h;exact⟨a,h1,hi a b⟩
theorem gE.mono{f:FuncId}{args:List D}{dst:Option Nat}{s:St}{K c:St->Prop}{t:Tag (dst,s,K)}{u:Tag (dst,s,c)}(h:gE T f args dst s K t)(hi:∀s,K s->c s):gE T f args dst s c u:=by
 rcases h with⟨fn,b,a,h⟩|⟨fn,b,a,h⟩
 .exact .inl ⟨fn,b,a,Wf.mono h λd Hn h=>Uq h hi⟩
 .exact .inr ⟨fn,b,a,Wf.mono h λd H h=>hi _ h⟩
theorem sD.mono{v:Nat}{args:List D}{dst:Option Nat}{s:St}{K a:St->Prop}{t:Tag (dst,s,K)}{u:Tag (dst,s,a)}(h:sD T v args dst s K t)(hi:∀s,K s->a s):sD T v args dst s a u:=by obtain⟨rf,env0,Rd,d,f,hl,h⟩:=h;exact⟨rf,env0,Rd,d,f,hl,h.mono λo ⟨s1,c,e,h1,j⟩=>⟨s1,c,e,h1,j.mono λo ⟨b,i,g⟩=>⟨b,i,hi _ g⟩⟩⟩
theorem x6.mono{d:D}{args:List D}{dst:Option Nat}{s:St}{K a:St->Prop}{t:Tag (dst,s,K)}{u:Tag (dst,s,a)}(h:x6 T d args dst s K t)(hi:∀s,K s->a s):x6 T d args dst s a u:=by
 unfold x6 at h ⊢;split at h
 .exact sD.mono h hi
 .exact Uq h λp b=>gE.mono b hi
theorem vP.mono{x:D}{dst:Option Nat}{s:St}{K a:St->Prop}{t:Tag (dst,s,K)}{u:Tag (dst,s,a)}(h:vP x dst s K t)(hi:∀s,K s->a s):vP x dst s a u:=by obtain⟨v,m,since,seen,kk,es,h1,g,f,e,c,b⟩:=h;exact⟨v,m,since,seen,kk,es,h1,g,f,e,λh=>hi _ (c h),λi k d l j=>hi _ (b i k d l j)⟩
theorem jn.mono{op:jh}{dst:Option Nat}{s:St}{K a:St->Prop}(h:jn T op dst s K)(hi:∀s,K s->a s):jn T op dst s a:=by
 unfold jn at h ⊢
 split at h<;>first
  | exact gE.mono h hi
  | exact x6.mono h hi
  | exact vP.mono h hi
  | exact Uq h λp b=>hi _ b
theorem XO.mono:∀ {l:List iz} {s:St} {K a:St->Prop},XO T l s K->(∀s,K s->a s)->XO T l s a
 | [],s,K,a,h,hi=>hi s h
 | e::r,s,K,a,h,hi=>by obtain⟨x,hg,b,c⟩:=h;exact⟨x,hg,λe=>jn.mono (b e) λd h=>XO.mono h hi,λe=>XO.mono (c e) hi⟩
theorem gE.wo{f:FuncId}{args:List D}{s:St}{K:St->Prop}{e:iz}{r:List iz}(hg:guardOf s.env.get e.guard=aE b4)(l:lB s.env.get e.op=aE (f,args))(h:gE T f args e.dst s (λg=>Wo T r g K) .mk):Wo T (e::r) s K:=by
 rcases h with⟨fn,j,i,h⟩|⟨fn,j,i,h⟩
 .refine Ev.Hw hg l j i h (λd Hn b=>?_) λd Hn g b k=>?_
  .obtain⟨d',H',a,g,hs,c⟩:=b;cases a;rw[hs];rfl
  .obtain⟨d',H',a,m,hs,c⟩:=b;cases a;rw[hs]at k;cases k;exact c
 .exact Ev.Hv hg l j i h λd H' b=>by obtain⟨d',H2,a,c⟩:=b;cases a;exact c
theorem XO.yO{l2:List iz}{K:St->Prop}:∀ {l:List iz} {s:St},XO T l s (λb=>Wo T l2 b K)->Wo T (l++l2) s K
 | [],s,h=>h
 | e::r,s,h=>by
  obtain⟨x,hg,F,t⟩:=h
  cases x with
  | false=>exact Wo.off hg (XO.yO (t rfl))
  | true=>
   have h:=F rfl;have plain:oA (ie s.env.get s.H s.H.l e.op) (kp s e.dst λb=>XO T r b λb=>Wo T l2 b K) .mk->Wo T (e::r++l2) s K:=λ⟨⟨d,δ⟩,z,y⟩=>Wo.op hg z (XO.yO y);have sp:oA (nv s.env.get s.H s.H.l e.op) (kp s e.dst λb=>XO T r b λb=>Wo T l2 b K) .mk->Wo T (e::r++l2) s K:=λ⟨⟨d,δ⟩,z,y⟩=>Wo.DT hg z (XO.yO y)
   have call:∀f args,lB s.env.get e.op=aE (f,args)->gE T f args e.dst s (λb=>XO T r b λb=>Wo T l2 b K) .mk->Wo T (e::r++l2) s K:=λf args G D=>by
    refine gE.wo hg G ?_;rcases D with⟨fn,t,q,h⟩|⟨fn,t,q,h⟩
    .exact .inl ⟨fn,t,q,Wf.mono h λd Hn ⟨b,h1,g⟩=>⟨b,h1,XO.yO g⟩⟩
    .exact .inr ⟨fn,t,q,Wf.mono h λd Hn h1=>XO.yO h1⟩
   unfold jn at h;split at h
   case h_1 f args c=>exact call _ _ (by rw[c];rfl) h
   case h_2 f args c=>exact call _ _ (by rw[c];rfl) h
   case h_3 f args c=>
    unfold x6 at h;split at h
    .rename_i v E;obtain⟨rf,env0,Rd,B,H,hl,h⟩:=h;have C:yieldOf s.env.get e.op=aE (v,args.map (ev s.env.get)):=by rw[c];simp only[yieldOf,E]
     refine Ev.NI hg C B H hl h (λo ⟨o',j,s1,A,u,h1,g⟩=>?_) (Rb:=PO (DG v rf e.dst s λb=>XO T r b λb=>Wo T l2 b K)) (λs1 A ⟨o',j,N,w,u,h1,g⟩ n=>?_) (λo ⟨o',j,w,h1,g⟩=>?_) λo w ⟨o',j,M,h1,g⟩ n=>?_
     .cases j;subst u;exact⟨rfl,A,h1⟩
     .cases j;cases u;rw[h1]at n;cases n;exact g
     .cases j;exact⟨w,h1⟩
     .cases j;rw[h1]at n;cases n;exact XO.yO g
    .rename_i O;obtain⟨p,q,h⟩:=h;exact call p.1 p.2 (by rw[c,adW];exact q) h
   case h_14 a c=>
    obtain⟨v,m,since,seen,kk,es,h1,g,n,L,J,I⟩:=h;exact Ev.next hg c h1 g n L (λk=>XO.yO (J k)) λi k d j u=>XO.yO (I i k d j u)
   case h_15=>exact plain h
   all_goals (rename_i c;exact sp (by rw[c];exact h))
theorem XO.wo{l:List iz}{s:St}{K:St->Prop}(h:XO T l s K):Wo T l s K:=by have:=XO.yO (l2:=[]) (K:=K) (XO.mono h λa k=>Wo.nil k);rwa [aD]at this
theorem XT.wt:∀ {l:List iz} {s:St} {K:List Rc->St->Prop},XT T l s K->Wt T l s K
 | [],s,K,h=>Wt.nil h
 | e::r,s,K,h=>by
  obtain⟨x,hg,y,g⟩:=h
  cases x with
  | false=>exact Wt.off hg (XT.wt (g rfl))
  | true=>
   have h:=y rfl
   have call:∀f args,lB s.env.get e.op=aE (f,args)->ji T f args (ik s.env.get s.H e.op) e.dst s (λrc q=>XT T r q λrs o=>K (rc::rs) o) .mk->Wt T (e::r) s K:=λf args A ⟨fn,d,g,b,m,n,c⟩=>
    Ev.J4 hg A g b m (λd' Hn ⟨d2,H2,a,i⟩=>by cases a;exact i) n (XT.wt c) λrs q ⟨j,o,a,k⟩=>by cases a;exact⟨_,_,rfl,k⟩
   unfold ky at h;split at h
   case h_1 f args a=>exact call _ _ (by rw[a];rfl) (by rw[a];exact h)
   case h_2 f args a=>
    rcases h with(h|⟨fn,d,ob,g,b,m,n,c⟩)|⟨fn,d,v,g,b,hS,w,u,n,m,z,c⟩
    .exact call _ _ (by rw[a];rfl) (by rw[a];exact h)
    .exact Ev.J5 hg a rfl g b m (λd' Hn ⟨d2,H2,a,i⟩=>by cases a;exact i) n (XT.wt c) λrs q ⟨j,o,t,k⟩=>by cases t;rw[a];exact⟨_,_,rfl,k⟩
    .exact Ev.J6 hg a rfl g b hS w u n m (λd' Hn ⟨d2,H2,a,i⟩=>by cases a;exact i) z (XT.wt c) λrs q ⟨j,o,t,k⟩=>by cases t;rw[a];exact⟨_,_,rfl,k⟩
   case h_3 f args a=>obtain⟨p,b,h⟩:=h;exact call p.1 p.2 (by rw[a];exact b) (by rw[a];exact h)
   case h_4=>obtain⟨⟨d,δ⟩,i,c⟩:=h;exact Wt.op hg i (XT.wt c)
end
def me:IR->IR
 | .seq a b=>.seq (me a) (me b)
 | .cond c a b=>.cond c (me a) (me b)
 | .block id live a=>.block id live (me a)
 | .loop live a=>.loop live (me a)
 | .fz _ a=>me a
 | .xc _ a b=>.ops (a++b)
 | c=>c
def vA:IR->Bool
 | .seq a b=>vA a&&vA b
 | .cond _ a b=>vA a&&vA b
 | .block _ _ a=>vA a
 | .loop _ a=>vA a
 | .fz _ _=>cp
 | .xc _ _ _=>cp
 | _=>b4
theorem pK:∀ {c:IR},vA c=b4->me c=c
 | .seq a b,h=>by simp only[vA,ai]at h;rw[me,pK h.1,pK h.2]
 | .cond _ a b,h=>by simp only[vA,ai]at h;rw[me,pK h.1,pK h.2]
 | .block _ _ a,h=>by rw[me,pK (c:=a) h]
 | .loop _ a,h=>by rw[me,pK (c:=a) h]
 | .fz _ _,h=>by cases h
 | .xc _ _ _,h=>by cases h
 | .skip,_ | .ops _,_ | .mO _ _,_ | .nT _ _ _,_ | .po _ _ _,_ | .exit _,_ | .ret,_ | .bad,_=>rfl
def mm(k:Nat):List iz->Bool
 | { dst:=aE j,.. }::_=>decide (j=k)
 | _=>cp
def jm(k:Nat)(S:List Nat):IR->IR
 | .ops l=>bif mm k l then .fz S (.ops l)else .ops l
 | .mO p l=>bif mm k l then .fz S (.mO p l)else .mO p l
 | .nT p l e=>bif mm k l then .fz S (.nT p l e)else .nT p l e
 | .seq a b=>.seq (jm k S a) (jm k S b)
 | .cond c a b=>.cond c (jm k S a) (jm k S b)
 | .block id live a=>.block id live (jm k S a)
 | .loop live a=>.loop live (jm k S a)
 | .fz d a=>.fz d (jm k S a)
 | c=>c
theorem BT(k:Nat)(S:List Nat):∀c:IR,me (jm k S c)=me c
 | .ops l=>by unfold jm;cases mm k l<;>rfl
 | .mO p l=>by unfold jm;cases mm k l<;>rfl
 | .nT p l e=>by unfold jm;cases mm k l<;>rfl
 | .seq a b=>by simp only[jm,me,BT k S a,BT k S b]
 | .cond c a b=>by simp only[jm,me,BT k S a,BT k S b]
 | .block id live a=>by simp only[jm,me,BT k S a]
 | .loop live a=>by simp only[jm,me,BT k S a]
 | .fz d a=>by simp only[jm,me,BT k S a]
 | .skip | .po _ _ _ | .exit _ | .ret | .bad | .xc _ _ _=>rfl
def nR(k:Nat):List iz->List iz
 | []=>[]
 | e::r=>bif mm k [e]then []else e::nR k r
def nU(k:Nat):List iz->List iz
 | []=>[]
 | e::r=>bif mm k [e]then e::r else nU k r
def oo(k:Nat):List iz->Bool
 | []=>cp
 | e::r=>mm k [e]||oo k r
theorem Wi(k:Nat):∀l:List iz,nR k l++nU k l=l
 | []=>rfl
 | e::r=>by unfold nR nU;cases mm k [e]<;>simp[Wi k r]
def kS(k:Nat)(S:List Nat):IR->IR
 | .ops l=>bif oo k l then .xc S (nR k l) (nU k l)else .ops l
 | .seq a b=>.seq (kS k S a) (kS k S b)
 | .cond c a b=>.cond c (kS k S a) (kS k S b)
 | .block id live a=>.block id live (kS k S a)
 | .loop live a=>.loop live (kS k S a)
 | .fz d a=>.fz d (kS k S a)
 | c=>c
theorem BU(k:Nat)(S:List Nat):∀c:IR,me (kS k S c)=me c
 | .ops l=>by unfold kS;cases oo k l<;>simp[me,Wi]
 | .seq a b=>by simp only[kS,me,BU k S a,BU k S b]
 | .cond c a b=>by simp only[kS,me,BU k S a,BU k S b]
 | .block id live a=>by simp only[kS,me,BU k S a]
 | .loop live a=>by simp only[kS,me,BU k S a]
 | .fz d a=>by simp only[kS,me,BU k S a]
 | .skip | .po _ _ _ | .exit _ | .ret | .bad | .xc _ _ _ | .mO _ _ | .nT _ _ _=>rfl
def gx(T:iL)(live:List Nat)(a:IR)(s:St)(K:ju)(_:Tag (live,a,s,K)):Prop:=Wc T (.loop live (me a)) s K
def uP(T:iL)(rf:Nat)(live:List Nat)(x:X)(s:St)(K:ju)(_:Tag (live,x,s,K)):Prop:=Wc T (.po rf live x) s K
@[irreducible] def yD(m S:List Nat):Bool:=m.all λv => !S.contains v
theorem Jk(m S:List Nat):yD m S=m.all λv => !S.contains v:=by unfold yD;rfl
@[simp] theorem aiV(S:List Nat):yD [] S=true:=by rw[Jk];rfl
@[simp] theorem axE(v:Nat)(m S:List Nat):yD (v::m) S=(!decide (v∈S)&&yD m S):=by rw[Jk,Jk,List.all_cons,dq]
def QX:D->List Nat
 | .agg cs=>(cs.map (jP 0)).flatten
 | _=>[]
@[simp] theorem asM(cs:List D):QX (.agg cs)=(cs.map (jP 0)).flatten:=rfl
def rP(env:Env):List Nat->List Nat
 | []=>[]
 | v::r=>if v<1000 then v::rP env r else if v<2000 then jP 0 (env.get (v-1000))++rP env r else QX (env.get (v-2000))++rP env r
@[simp] theorem avJ(env:Env):rP env [] = []:=rfl
@[simp] theorem avI(env:Env)(v:Nat)(r:List Nat):rP env (v::r)=if v<1000 then v::rP env r else if v<2000 then jP 0 (env.get (v-1000))++rP env r else QX (env.get (v-2000))++rP env r:=rfl
def XC(T:iL):IR->St->ju->Prop
 | .skip,s,K=>K (.norm s)
 | .ops l,s,K=>XO T l s λd=>K (.norm d)
 | .mO kf l,s,K=>XT T l s λrs d=>xL kf rs=b4/\K (.norm d)
 | .nT kf l es,s,K=>XT T l s λrs d=>xL kf rs=b4/\XO T es d λd=>K (.norm d)
 | .seq a b,s,K=>XC T a s λo=>match o with
  | .norm d=>XC T b d K
  | o=>K o
 | .cond c a b,s,K=>XB (ev s.env.get c) (XC T a s K) (XC T b s K) .mk
 | .block id live a,s,K=>XC T a s λo=>K (mz id s.H.l live o)
 | .loop live a,s,K=>gx T live a s K .mk
 | .po rf live x,s,K=>uP T rf live x s K .mk
 | .exit id,s,K=>K (.exit id s)
 | .ret,s,K=>K (.ret s)
 | .bad,_,_=>False
 | .fz S a,s,K=>yD s.marks (rP s.env S)=b4/\XC T a (mQ (rP s.env S) s) K
 | .xc S a b,s,K=>XO T a s λd=>yD d.marks (rP d.env S)=b4/\XO T b (mQ (rP d.env S) d) λd=>K (.norm d)
def PX(T:iL)(b:IR)(K:ju):ju:=λo=>match o with
 | .norm a=>XC T b a K
 | o=>K o
def yZ(id n:Nat)(live:List Nat)(K:ju):ju:=λo=>K (mz id n live o)
section
variable{T:iL}
theorem Wc.mQ{c:IR}{s:St}{K:ju}(S:List Nat)(a:yD s.marks S=b4)(h:Wc T c (mQ S s) K):Wc T c s K:=Ev.H9 S (by rwa [Jk]at a) h
theorem XC.wc:∀ {c:IR} {s:St} {K:ju},XC T c s K->Wc T (me c) s K
 | .skip,s,K,h=>Wc.skip h
 | .ops l,s,K,h=>Wc.ops (XO.wo h)
 | .mO kf l,s,K,h=>Wc.mO (XT.wt h)
 | .nT kf l es,s,K,h=>Wc.nT (Ev.mono (XT.wt h) λ_ ⟨rs,d,q,k⟩=>⟨rs,d,q,k.1,XO.wo k.2⟩)
 | .seq a b,s,K,h=>Wc.seq ((XC.wc (c:=a) h).mono λo f=>by
  cases o with
  | norm d=>exact XC.wc (c:=b) f
  | exit=>exact f
  | ret=>exact f)
 | .cond _ _ _,_,_,h=>by obtain⟨x,g,i,j⟩:=h;exact Wc.cond x g (λe=>XC.wc (i e)) λe=>XC.wc (j e)
 | .block _ _ _,_,_,h=>Wc.block (XC.wc h)
 | .loop live a,s,K,h=>h
 | .po rf live x,s,K,h=>h
 | .exit id,s,K,h=>Wc.exit h
 | .ret,s,K,h=>Wc.ret h
 | .bad,s,K,h=>h.elim
 | .fz S a,s,K,h=>Wc.mQ (rP s.env S) h.1 (XC.wc (c:=a) h.2)
 | .xc S a b,s,K,h=>Wc.ops (XO.yO (XO.mono h λd k=>Ev.mQ (rP d.env S) (by have:=k.1;rwa [Jk]at this) (XO.wo k.2)))
def wK(ds:List D):D:=match ds with
 | [d]=>d
 | ds=>.tup ds
@[simp] theorem azC(d:D):wK [d]=d:=rfl
@[simp] theorem azD(d e:D):wK [d,e] = .tup [d,e]:=rfl
@[simp] theorem azE(d e f:D):wK [d,e,f] = .tup [d,e,f]:=rfl
@[simp] theorem azB:wK [] = .tup []:=rfl
def AP(rs:List wU)(own n:Nat)(K:D->gg->Prop):ju:=λo=>match o with
 | .norm s | .ret s=>oA (kill s.marks s.H) (λH=>oA (wL { s with H:=H } rs) (λds=>K (leave own n H (wK ds)).1 (leave own n H (wK ds)).2) .mk) .mk
 | .exit _ _=>False
theorem Wf.xz(own:Nat){f:FuncId}{args:List D}{H:gg}{fn:jK}{K:D->gg->Prop}(c:IR)(g:T.fn f=aE fn)(hl:args.l<=fn.ntmps)(i:me c=fn.body)
  (h:XC T c { env:=vx args,H:=H } (AP fn.results own H.l K)):Wf T f args H K:=by
 have key:∀s:St,(oA (kill s.marks s.H) (λH'=>oA (wL { s with H:=H' } fn.results) (λds=>K (leave own H.l H' (wK ds)).1 (leave own H.l H' (wK ds)).2) .mk) .mk)->∃d H',(match kill s.marks s.H with
  | some H1=>match results fn { s with H:=H1 }with
   | some d=>aE (leave own H.l H1 d)
   | none=>cj
  | none=>cj)=aE (d,H')/\K d H':=by
  rintro s ⟨H1,h1,ds,j,e⟩;rw[h1];refine⟨_,_,?_,e⟩;unfold AL.results;dsimp only;rw[j]
  cases ds with
  | nil=>rfl
  | cons a l=>cases l<;>rfl
 refine Wf.call own g hl (i▸(XC.wc h).mono λo b=>?_)
 cases o with
 | norm s=>exact key s b
 | ret s=>exact key s b
 | exit=>exact b.elim
theorem Wf.xo(own:Nat){f:FuncId}{args:List D}{H:gg}{fn:jK}{K:D->gg->Prop}(b:T.fn f=aE fn)(hl:args.l<=fn.ntmps)
  (h:XC T fn.body { env:=vx args,H:=H } (AP fn.results own H.l K)) (a:vA fn.body=true:=by rfl):Wf T f args H K:=Wf.xz own fn.body b hl (pK a) h
theorem Wf.x{f:FuncId}{args:List D}{H:gg}{fn:jK}{K:D->gg->Prop}(b:T.fn f=aE fn)(hl:args.l<=fn.ntmps)
  (h:XC T fn.body { env:=vx args,H:=H } (AP fn.results fn.own H.l K)) (a:vA fn.body=true:=by rfl):Wf T f args H K:=Wf.xo fn.own b hl h a
theorem gE.is{f:FuncId}{args:List D}{dst:Option Nat}{s:St}{K:St->Prop}{fn:jK}{K0:D->gg->Prop}(b:T.fn f=aE fn)(a:fn.full=cp)(h:Wf T f (args.map (gA (λ_=>cj) s.H 40)) [] K0)
  (k:∀d Hn,K0 d Hn->oA (after s dst args d Hn) K .mk):gE T f args dst s K .mk:=.inl ⟨fn,b,a,Wf.mono h k⟩
theorem gE.lU{f:FuncId}{args:List D}{dst:Option Nat}{s:St}{K:St->Prop}{fn:jK}{K0:D->gg->Prop}(b:T.fn f=aE fn)(a:fn.full=b4)(h:Wf T f args s.H K0)
  (k:∀d H',K0 d H'->K { s with env:=put s.env dst d,H:=H' }):gE T f args dst s K .mk:=.inr ⟨fn,b,a,Wf.mono h k⟩
theorem gE.c{f:FuncId}{args:List D}{dst:Option Nat}{s:St}{K:St->Prop}{fn:jK}{x:D}(e:T.fn f=aE fn)(c:fn.full=cp)(h:Wf T f args [] λd H'=>d=x/\H' = [])
  (a:gN args=b4) (b:closed x=b4) (k:K { s with env:=put s.env dst x }):gE T f args dst s K .mk:=by
 refine gE.is e c (K0:=λd H'=>d=x/\H' = []) ?_ ?_
 .have i:args.map (gA (λ_=>cj) s.H 40)=args:=by
   conv=>rhs;rw[<-bf args]
   exact aw λd g=>sq (mL a d g)
  rw[i];exact h
 .rintro d Hn ⟨rfl,rfl⟩;obtain⟨k1,k2⟩:=HB (H:=s.H) b;refine⟨{ s with env:=put s.env dst d },?_,k⟩;unfold after;rw[if_pos a,k1,k2];simp
theorem gE.r{f:FuncId}{args pM:List D}{dst:Option Nat}{s:St}{K:St->Prop}{fn:jK}{x:D}(e:T.fn f=aE fn)(c:fn.full=cp)(h:Wf T f pM [] λd H'=>d=x/\H' = [])
  (hs:args.map (gA (λ_=>cj) s.H 40)=pM) (b:flat x=b4) (a:closed x=b4) (k:K { s with env:=put s.env dst x }):gE T f args dst s K .mk:=by
 refine gE.is e c (K0:=λd H'=>d=x/\H' = []) (by rw[hs];exact h) ?_;rintro d Hn ⟨rfl,rfl⟩;obtain⟨k1,k2⟩:=HB (H:=s.H) a;refine⟨{ s with env:=put s.env dst d },?_,k⟩;have:p5 d=true:=(RQ (H:=s.H) b).1;unfold after;rw[this,k1,k2];simp
theorem ji.c{f:FuncId}{args:List D}{R:List Fp}{dst:Option Nat}{s:St}{Q:Rc->St->Prop}{fn:jK}{x:D}(e:T.fn f=aE fn)(c:fn.full=cp)(h:Wf T f args [] λd H'=>d=x/\H' = [])
  (a:gN args=b4) (b:closed x=b4) (k:Q ⟨R,[]⟩ { s with env:=put s.env dst x }):ji T f args R dst s Q .mk:=by
 refine⟨fn,x,e,c,?_,by rw[if_pos a];exact b,k⟩
 have i:args.map (gA (λ_=>cj) s.H 40)=args:=by
  conv=>rhs;rw[<-bf args]
  exact aw λd g=>sq (mL a d g)
 rw[i];exact h
theorem ji.r{f:FuncId}{args pM:List D}{R:List Fp}{dst:Option Nat}{s:St}{Q:Rc->St->Prop}{fn:jK}{x:D}(b:T.fn f=aE fn)(a:fn.full=cp)(h:Wf T f pM [] λd H'=>d=x/\H' = [])
  (hs:args.map (gA (λ_=>cj) s.H 40)=pM) (e:flat x=b4) (c:closed x=b4) (k:Q ⟨R,[]⟩ { s with env:=put s.env dst x }):ji T f args R dst s Q .mk:=
 ⟨fn,x,b,a,by rw[hs];exact h,by split<;>assumption,k⟩
variable{s:St}{K:ju}{a b:IR}{l:List iz}{op:jh}{k j:Nat}
@[simp ↓] theorem aqW:XC T .skip s K=K (.norm s):=(rfl)
@[simp ↓] theorem aqS:XC T (.ops l) s K=XO T l s λa=>K (.norm a):=(rfl)
@[simp ↓] theorem aqM{a:List (Nat×Nat)}:XC T (.mO a l) s K=XT T l s λrs b=>xL a rs=b4/\K (.norm b):=(rfl)
@[simp ↓] theorem aqN{b:List (Nat×Nat)}{es:List iz}:XC T (.nT b l es) s K=XT T l s λrs a=>xL b rs=b4/\XO T es a λa=>K (.norm a):=(rfl)
@[simp ↓] theorem aqV:XC T (.seq a b) s K=XC T a s (PX T b K):=(rfl)
@[simp ↓] theorem aqL{c:X}:XC T (.cond c a b) s K=XB (ev s.env.get c) (XC T a s K) (XC T b s K) .mk:=(rfl)
@[simp ↓] theorem aqK{id:Nat}{live:List Nat}:XC T (.block id live a) s K=XC T a s (yZ id s.H.l live K):=(rfl)
@[simp ↓] theorem aqR{live:List Nat}:XC T (.loop live a) s K=gx T live a s K .mk:=(rfl)
@[simp ↓] theorem aqT{rf:Nat}{live:List Nat}{x:X}:XC T (.po rf live x) s K=uP T rf live x s K .mk:=(rfl)
@[simp ↓] theorem aqP{S:List Nat}:XC T (.fz S a) s K=(yD s.marks (rP s.env S)=b4/\XC T a (mQ (rP s.env S) s) K):=(rfl)
@[simp ↓] theorem aqQ{S:List Nat}{x y:List iz}:XC T (.xc S x y) s K=XO T x s λa=>yD a.marks (rP a.env S)=b4/\XO T y (mQ (rP a.env S) a) λa=>K (.norm a):=(rfl)
@[simp ↓] theorem aqO{id:Nat}:XC T (.exit id) s K=K (.exit id s):=(rfl)
@[simp ↓] theorem aqU:XC T .ret s K=K (.ret s):=(rfl)
@[simp ↓] theorem axX:PX T b K (.norm s)=XC T b s K:=(rfl)
@[simp ↓] theorem axW{id:Nat}:PX T b K (.exit id s)=K (.exit id s):=(rfl)
@[simp ↓] theorem axY:PX T b K (.ret s)=K (.ret s):=(rfl)
@[simp ↓] theorem Wl{id n:Nat}{live:List Nat}:yZ id n live K (.norm s)=K (.norm (cut n live s)):=(rfl)
@[simp ↓] theorem atv{id n:Nat}{live:List Nat}:yZ id n live K (.ret s)=K (.ret s):=(rfl)
@[simp ↓] theorem Wm{id n:Nat}{live:List Nat}:yZ id n live K (.exit id s)=K (.norm (cut n live s)):=by simp[yZ,mz]
@[simp ↓] theorem atu{id a n:Nat}{live:List Nat}(h:a≠id):yZ id n live K (.exit a s)=K (.exit a s):=by simp[yZ,mz,h]
@[simp ↓] theorem avp{rs:List wU}{own n:Nat}{K:D->gg->Prop}:AP rs own n K (.ret s)=oA (kill s.marks s.H) (λH=>oA (wL { s with H:=H } rs) (λds=>K (leave own n H (wK ds)).1 (leave own n H (wK ds)).2) .mk) .mk:=(rfl)
@[simp ↓] theorem avo{rs:List wU}{own n:Nat}{K:D->gg->Prop}:AP rs own n K (.norm s)=oA (kill s.marks s.H) (λH=>oA (wL { s with H:=H } rs) (λds=>K (leave own n H (wK ds)).1 (leave own n H (wK ds)).2) .mk) .mk:=(rfl)
@[simp ↓] theorem aq3{K:St->Prop}:XO T [] s K=K s:=(rfl)
@[simp ↓] theorem aq4{K:St->Prop}:XO T (o k op::l) s K=jn T op (aE k) s λa=>XO T l a K:=by simp[XO,guardOf]
@[simp ↓] theorem aq6{K:St->Prop}:XO T (u op::l) s K=jn T op cj s λa=>XO T l a K:=by simp[XO,guardOf]
@[simp ↓] theorem aq5{g:Bool}{K:St->Prop}:XO T (og j g k op::l) s K=XG (guardOf s.env.get (aE (j,g))) (jn T op (aE k) s λa=>XO T l a K) (XO T l { s with env:=(k,.val undef)::s.env } K) .mk:=(rfl)
@[simp ↓] theorem aq7{g:Bool}{K:St->Prop}:XO T (ug j g op::l) s K=XG (guardOf s.env.get (aE (j,g))) (jn T op cj s λa=>XO T l a K) (XO T l s K) .mk:=(rfl)
@[simp ↓] theorem ar1{Q:List Rc->St->Prop}:XT T [] s Q=Q [] s:=(rfl)
@[simp ↓] theorem ar2{Q:List Rc->St->Prop}:XT T (o k op::l) s Q=ky T op (aE k) s λrc b=>XT T l b λrs a=>Q (rc::rs) a:=by simp[XT,guardOf]
@[simp ↓] theorem ar4{Q:List Rc->St->Prop}:XT T (u op::l) s Q=ky T op cj s λrc b=>XT T l b λrs a=>Q (rc::rs) a:=by simp[XT,guardOf]
@[simp ↓] theorem ar3{g:Bool}{Q:List Rc->St->Prop}:XT T (og j g k op::l) s Q=XG (guardOf s.env.get (aE (j,g))) (ky T op (aE k) s λrc b=>XT T l b λrs a=>Q (rc::rs) a) (XT T l { s with env:=(k,.val undef)::s.env } λrs a=>Q (⟨[],[]⟩::rs) a) .mk:=(rfl)
@[simp ↓] theorem ar5{g:Bool}{Q:List Rc->St->Prop}:XT T (ug j g op::l) s Q=XG (guardOf s.env.get (aE (j,g))) (ky T op cj s λrc b=>XT T l b λrs a=>Q (rc::rs) a) (XT T l s λrs a=>Q (⟨[],[]⟩::rs) a) .mk:=(rfl)
@[simp ↓] theorem awP{dst:Option Nat}{K:St->Prop}{d:D}{δ:Dl}:kp s dst K (d,δ)=K { s with env:=put s.env dst d,H:=δ.app s.H (Al.last s.H) }:=(rfl)
@[simp ↓] theorem awQ{dst:Option Nat}{R:List Fp}{Q:Rc->St->Prop}{d:D}{δ:Dl}:kt s dst R Q (d,δ)=Q ⟨R,kC s.H.l δ⟩ { s with env:=put s.env dst d,H:=δ.app s.H (Al.last s.H) }:=(rfl)
section
variable{dst:Option Nat}{K:St->Prop}{Q:Rc->St->Prop}
@[simp ↓] theorem arM{x:X}:jn T (.mv x) dst s K=oA (ie s.env.get s.H s.H.l (.mv x)) (kp s dst K) .mk:=(rfl)
@[simp ↓] theorem asA{x:X}:ky T (.mv x) dst s Q=oA (ie s.env.get s.H s.H.l (.mv x)) (kt s dst (ik s.env.get s.H (.mv x)) Q) .mk:=(rfl)
@[simp ↓] theorem arR{c a b:X}:jn T (.pick c a b) dst s K=oA (ie s.env.get s.H s.H.l (.pick c a b)) (kp s dst K) .mk:=(rfl)
@[simp ↓] theorem asC{c a b:X}:ky T (.pick c a b) dst s Q=oA (ie s.env.get s.H s.H.l (.pick c a b)) (kt s dst (ik s.env.get s.H (.pick c a b)) Q) .mk:=(rfl)
@[simp ↓] theorem ard{t:TypeId}{x:X}:jn T (.box t x) dst s K=oA (ie s.env.get s.H s.H.l (.box t x)) (kp s dst K) .mk:=(rfl)
@[simp ↓] theorem asa{t:TypeId}{x:X}:ky T (.box t x) dst s Q=oA (ie s.env.get s.H s.H.l (.box t x)) (kt s dst (ik s.env.get s.H (.box t x)) Q) .mk:=(rfl)
@[simp ↓] theorem aq8{t:TypeId}{z:List D}:jn T (.alloc t z) dst s K=oA (ie s.env.get s.H s.H.l (.alloc t z)) (kp s dst K) .mk:=(rfl)
@[simp ↓] theorem ar6{t:TypeId}{z:List D}:ky T (.alloc t z) dst s Q=oA (ie s.env.get s.H s.H.l (.alloc t z)) (kt s dst (ik s.env.get s.H (.alloc t z)) Q) .mk:=(rfl)
@[simp ↓] theorem arf{z:List D}{ps:List (Nat×Nat×X)}:jn T (.build z ps) dst s K=oA (ie s.env.get s.H s.H.l (.build z ps)) (kp s dst K) .mk:=(rfl)
@[simp ↓] theorem asb{z:List D}{ps:List (Nat×Nat×X)}:ky T (.build z ps) dst s Q=oA (ie s.env.get s.H s.H.l (.build z ps)) (kt s dst (ik s.env.get s.H (.build z ps)) Q) .mk:=(rfl)
@[simp ↓] theorem arh{t sz:Nat}{z:List D}{n:Nat}{ps:List (Nat×X)}:jn T (.buildSl t sz z n ps) dst s K=oA (ie s.env.get s.H s.H.l (.buildSl t sz z n ps)) (kp s dst K) .mk:=(rfl)
@[simp ↓] theorem asc{t sz:Nat}{z:List D}{n:Nat}{ps:List (Nat×X)}:ky T (.buildSl t sz z n ps) dst s Q=oA (ie s.env.get s.H s.H.l (.buildSl t sz z n ps)) (kt s dst (ik s.env.get s.H (.buildSl t sz z n ps)) Q) .mk:=(rfl)
@[simp ↓] theorem arC{x:X}:jn T (.ld1 x) dst s K=oA (ie s.env.get s.H s.H.l (.ld1 x)) (kp s dst K) .mk:=(rfl)
@[simp ↓] theorem asr{x:X}:ky T (.ld1 x) dst s Q=oA (ie s.env.get s.H s.H.l (.ld1 x)) (kt s dst (ik s.env.get s.H (.ld1 x)) Q) .mk:=(rfl)
@[simp ↓] theorem arD{n:Nat}{x:X}:jn T (.ldN n x) dst s K=oA (ie s.env.get s.H s.H.l (.ldN n x)) (kp s dst K) .mk:=(rfl)
@[simp ↓] theorem ass{n:Nat}{x:X}:ky T (.ldN n x) dst s Q=oA (ie s.env.get s.H s.H.l (.ldN n x)) (kt s dst (ik s.env.get s.H (.ldN n x)) Q) .mk:=(rfl)
@[simp ↓] theorem arY{a x:X}:jn T (.st1 a x) dst s K=oA (ie s.env.get s.H s.H.l (.st1 a x)) (kp s dst K) .mk:=(rfl)
@[simp ↓] theorem asH{a x:X}:ky T (.st1 a x) dst s Q=oA (ie s.env.get s.H s.H.l (.st1 a x)) (kt s dst (ik s.env.get s.H (.st1 a x)) Q) .mk:=(rfl)
@[simp ↓] theorem arZ{n:Nat}{a x:X}:jn T (.stN n a x) dst s K=oA (ie s.env.get s.H s.H.l (.stN n a x)) (kp s dst K) .mk:=(rfl)
@[simp ↓] theorem asI{n:Nat}{a x:X}:ky T (.stN n a x) dst s Q=oA (ie s.env.get s.H s.H.l (.stN n a x)) (kt s dst (ik s.env.get s.H (.stN n a x)) Q) .mk:=(rfl)
@[simp ↓] theorem arQ{x:X}:jn T (.nilck x) dst s K=oA (ie s.env.get s.H s.H.l (.nilck x)) (kp s dst K) .mk:=(rfl)
@[simp ↓] theorem asB{x:X}:ky T (.nilck x) dst s Q=oA (ie s.env.get s.H s.H.l (.nilck x)) (kt s dst (ik s.env.get s.H (.nilck x)) Q) .mk:=(rfl)
@[simp ↓] theorem arb{op:BinOp}{x y:X}:jn T (.arith op x y) dst s K=oA (ie s.env.get s.H s.H.l (.arith op x y)) (kp s dst K) .mk:=(rfl)
@[simp ↓] theorem ar8{op:BinOp}{x y:X}:ky T (.arith op x y) dst s Q=oA (ie s.env.get s.H s.H.l (.arith op x y)) (kt s dst (ik s.env.get s.H (.arith op x y)) Q) .mk:=(rfl)
@[simp ↓] theorem aru{a:Bool}{ls:List nI}{neg:Bool}{x y:X}:jn T (.eqS a ls neg x y) dst s K=oA (ie s.env.get s.H s.H.l (.eqS a ls neg x y)) (kp s dst K) .mk:=(rfl)
@[simp ↓] theorem asi{a:Bool}{ls:List nI}{neg:Bool}{x y:X}:ky T (.eqS a ls neg x y) dst s Q=oA (ie s.env.get s.H s.H.l (.eqS a ls neg x y)) (kt s dst (ik s.env.get s.H (.eqS a ls neg x y)) Q) .mk:=(rfl)
@[simp ↓] theorem ar0{op:UnOp}{x:X}:jn T (.un op x) dst s K=oA (ie s.env.get s.H s.H.l (.un op x)) (kp s dst K) .mk:=(rfl)
@[simp ↓] theorem asJ{op:UnOp}{x:X}:ky T (.un op x) dst s Q=oA (ie s.env.get s.H s.H.l (.un op x)) (kt s dst (ik s.env.get s.H (.un op x)) Q) .mk:=(rfl)
@[simp ↓] theorem aro{k:IntKind}{x:X}:jn T (.conv k x) dst s K=oA (ie s.env.get s.H s.H.l (.conv k x)) (kp s dst K) .mk:=(rfl)
@[simp ↓] theorem asg{k:IntKind}{x:X}:ky T (.conv k x) dst s Q=oA (ie s.env.get s.H s.H.l (.conv k x)) (kt s dst (ik s.env.get s.H (.conv k x)) Q) .mk:=(rfl)
@[simp ↓] theorem arc{x:X}:jn T (.b2s x) dst s K=oA (ie s.env.get s.H s.H.l (.b2s x)) (kp s dst K) .mk:=(rfl)
@[simp ↓] theorem ar9{x:X}:ky T (.b2s x) dst s Q=oA (ie s.env.get s.H s.H.l (.b2s x)) (kt s dst (ik s.env.get s.H (.b2s x)) Q) .mk:=(rfl)
@[simp ↓] theorem arJ{fn:Fn}{first a:List X}:jn T (.mkfn fn first a) dst s K=oA (ie s.env.get s.H s.H.l (.mkfn fn first a)) (kp s dst K) .mk:=(rfl)
@[simp ↓] theorem asx{fn:Fn}{first a:List X}:ky T (.mkfn fn first a) dst s Q=oA (ie s.env.get s.H s.H.l (.mkfn fn first a)) (kt s dst (ik s.env.get s.H (.mkfn fn first a)) Q) .mk:=(rfl)
@[simp ↓] theorem arK{kk:KK}:jn T (.mkmap kk) dst s K=oA (ie s.env.get s.H s.H.l (.mkmap kk)) (kp s dst K) .mk:=(rfl)
@[simp ↓] theorem asy{kk:KK}:ky T (.mkmap kk) dst s Q=oA (ie s.env.get s.H s.H.l (.mkmap kk)) (kt s dst (ik s.env.get s.H (.mkmap kk)) Q) .mk:=(rfl)
@[simp ↓] theorem arL{t sz bytes:Nat}{z:List D}{l c:X}:jn T (.mksl t sz bytes z l c) dst s K=oA (ie s.env.get s.H s.H.l (.mksl t sz bytes z l c)) (kp s dst K) .mk:=(rfl)
@[simp ↓] theorem asz{t sz bytes:Nat}{z:List D}{l c:X}:ky T (.mksl t sz bytes z l c) dst s Q=oA (ie s.env.get s.H s.H.l (.mksl t sz bytes z l c)) (kt s dst (ik s.env.get s.H (.mksl t sz bytes z l c)) Q) .mk:=(rfl)
@[simp ↓] theorem arU{sz:Nat}{x:X}{lo hi:Option X}:jn T (.slc sz x lo hi) dst s K=oA (ie s.env.get s.H s.H.l (.slc sz x lo hi)) (kp s dst K) .mk:=(rfl)
@[simp ↓] theorem asD{sz:Nat}{x:X}{lo hi:Option X}:ky T (.slc sz x lo hi) dst s Q=oA (ie s.env.get s.H s.H.l (.slc sz x lo hi)) (kt s dst (ik s.env.get s.H (.slc sz x lo hi)) Q) .mk:=(rfl)
@[simp ↓] theorem arV{sz:Nat}{x:X}{lo:Option X}{hi mx:X}:jn T (.slc3 sz x lo hi mx) dst s K=oA (ie s.env.get s.H s.H.l (.slc3 sz x lo hi mx)) (kp s dst K) .mk:=(rfl)
@[simp ↓] theorem asE{sz:Nat}{x:X}{lo:Option X}{hi mx:X}:ky T (.slc3 sz x lo hi mx) dst s Q=oA (ie s.env.get s.H s.H.l (.slc3 sz x lo hi mx)) (kt s dst (ik s.env.get s.H (.slc3 sz x lo hi mx)) Q) .mk:=(rfl)
@[simp ↓] theorem arW{sz n:Nat}{x:X}{lo hi:Option X}:jn T (.slcArr sz n x lo hi) dst s K=oA (ie s.env.get s.H s.H.l (.slcArr sz n x lo hi)) (kp s dst K) .mk:=(rfl)
@[simp ↓] theorem asF{sz n:Nat}{x:X}{lo hi:Option X}:ky T (.slcArr sz n x lo hi) dst s Q=oA (ie s.env.get s.H s.H.l (.slcArr sz n x lo hi)) (kt s dst (ik s.env.get s.H (.slcArr sz n x lo hi)) Q) .mk:=(rfl)
@[simp ↓] theorem arX{x:X}{lo hi:Option X}:jn T (.slcS x lo hi) dst s K=oA (ie s.env.get s.H s.H.l (.slcS x lo hi)) (kp s dst K) .mk:=(rfl)
@[simp ↓] theorem asG{x:X}{lo hi:Option X}:ky T (.slcS x lo hi) dst s Q=oA (ie s.env.get s.H s.H.l (.slcS x lo hi)) (kt s dst (ik s.env.get s.H (.slcS x lo hi)) Q) .mk:=(rfl)
@[simp ↓] theorem arx{off:Nat}{x:X}:jn T (.fieldA off x) dst s K=oA (ie s.env.get s.H s.H.l (.fieldA off x)) (kp s dst K) .mk:=(rfl)
@[simp ↓] theorem asm{off:Nat}{x:X}:ky T (.fieldA off x) dst s Q=oA (ie s.env.get s.H s.H.l (.fieldA off x)) (kt s dst (ik s.env.get s.H (.fieldA off x)) Q) .mk:=(rfl)
@[simp ↓] theorem arw{off n:Nat}{a:Bool}{x:X}:jn T (.field off n a x) dst s K=oA (ie s.env.get s.H s.H.l (.field off n a x)) (kp s dst K) .mk:=(rfl)
@[simp ↓] theorem asl{off n:Nat}{a:Bool}{x:X}:ky T (.field off n a x) dst s Q=oA (ie s.env.get s.H s.H.l (.field off n a x)) (kt s dst (ik s.env.get s.H (.field off n a x)) Q) .mk:=(rfl)
@[simp ↓] theorem arz{sz:Nat}{x i:X}:jn T (.idxA sz x i) dst s K=oA (ie s.env.get s.H s.H.l (.idxA sz x i)) (kp s dst K) .mk:=(rfl)
@[simp ↓] theorem aso{sz:Nat}{x i:X}:ky T (.idxA sz x i) dst s Q=oA (ie s.env.get s.H s.H.l (.idxA sz x i)) (kt s dst (ik s.env.get s.H (.idxA sz x i)) Q) .mk:=(rfl)
@[simp ↓] theorem arA{sz n:Nat}{x i:X}:jn T (.idxArr sz n x i) dst s K=oA (ie s.env.get s.H s.H.l (.idxArr sz n x i)) (kp s dst K) .mk:=(rfl)
@[simp ↓] theorem asp{sz n:Nat}{x i:X}:ky T (.idxArr sz n x i) dst s Q=oA (ie s.env.get s.H s.H.l (.idxArr sz n x i)) (kt s dst (ik s.env.get s.H (.idxArr sz n x i)) Q) .mk:=(rfl)
@[simp ↓] theorem ary{sz n:Nat}{a:Bool}{x i:X}:jn T (.idx sz n a x i) dst s K=oA (ie s.env.get s.H s.H.l (.idx sz n a x i)) (kp s dst K) .mk:=(rfl)
@[simp ↓] theorem asn{sz n:Nat}{a:Bool}{x i:X}:ky T (.idx sz n a x i) dst s Q=oA (ie s.env.get s.H s.H.l (.idx sz n a x i)) (kt s dst (ik s.env.get s.H (.idx sz n a x i)) Q) .mk:=(rfl)
@[simp ↓] theorem arB{x i:X}:jn T (.idxStr x i) dst s K=oA (ie s.env.get s.H s.H.l (.idxStr x i)) (kp s dst K) .mk:=(rfl)
@[simp ↓] theorem asq{x i:X}:ky T (.idxStr x i) dst s Q=oA (ie s.env.get s.H s.H.l (.idxStr x i)) (kt s dst (ik s.env.get s.H (.idxStr x i)) Q) .mk:=(rfl)
@[simp ↓] theorem arF{kk:KK}{z:D}{ok:Bool}{m k:X}:jn T (.lookup kk z ok m k) dst s K=oA (ie s.env.get s.H s.H.l (.lookup kk z ok m k)) (kp s dst K) .mk:=(rfl)
@[simp ↓] theorem asu{kk:KK}{z:D}{ok:Bool}{m k:X}:ky T (.lookup kk z ok m k) dst s Q=oA (ie s.env.get s.H s.H.l (.lookup kk z ok m k)) (kt s dst (ik s.env.get s.H (.lookup kk z ok m k)) Q) .mk:=(rfl)
@[simp ↓] theorem arH{kk:KK}{m k v:X}:jn T (.mapUpd kk m k v) dst s K=oA (ie s.env.get s.H s.H.l (.mapUpd kk m k v)) (kp s dst K) .mk:=(rfl)
@[simp ↓] theorem asv{kk:KK}{m k v:X}:ky T (.mapUpd kk m k v) dst s Q=oA (ie s.env.get s.H s.H.l (.mapUpd kk m k v)) (kt s dst (ik s.env.get s.H (.mapUpd kk m k v)) Q) .mk:=(rfl)
@[simp ↓] theorem arv{x:X}{i:Nat}:jn T (.ext x i) dst s K=oA (ie s.env.get s.H s.H.l (.ext x i)) (kp s dst K) .mk:=(rfl)
@[simp ↓] theorem asj{x:X}{i:Nat}:ky T (.ext x i) dst s Q=oA (ie s.env.get s.H s.H.l (.ext x i)) (kt s dst (ik s.env.get s.H (.ext x i)) Q) .mk:=(rfl)
@[simp ↓] theorem ari{f:FuncId}{args:List X}:jn T (.call f args) dst s K=gE T f (args.map (ev s.env.get)) dst s K .mk:=(rfl)
@[simp ↓] theorem asd{f:FuncId}{args:List X}:ky T (.call f args) dst s Q=ji T f (args.map (ev s.env.get)) (ik s.env.get s.H (.call f args)) dst s Q .mk:=(rfl)
@[simp ↓] theorem arj{f:FuncId}{args:List X}:jn T (.callN f args) dst s K=gE T f (args.map (ev s.env.get)) dst s K .mk:=(rfl)
@[simp ↓] theorem ase{f:FuncId}{args:List X}:ky T (.callN f args) dst s Q=vR T f (args.map (ev s.env.get)) (ik s.env.get s.H (.callN f args)) dst s Q .mk:=(rfl)
@[simp ↓] theorem ark{f:X}{args:List X}:jn T (.callv f args) dst s K=x6 T (ev s.env.get f) (args.map (ev s.env.get)) dst s K .mk:=(rfl)
@[simp] theorem aqX{k:FuncId}{first cap args:List D}:x6 T (.fn (.func k) first cap) args dst s K .mk=gE T k (first++args++cap) dst s K .mk:=by show oA (aE (k,first++args++cap)) (λp=>gE T p.1 p.2 dst s K .mk) .mk=_;simp only[BB]
@[simp] theorem aqY{v:Nat}{args:List D}:x6 T (.jt v) args dst s K .mk=sD T v args dst s K .mk:=(rfl)
@[simp ↓] theorem asf{f:X}{args:List X}:ky T (.callv f args) dst s Q=oA (lB s.env.get (.callv f args)) (λp=>ji T p.1 p.2 (ik s.env.get s.H (.callv f args)) dst s Q .mk) .mk:=(rfl)
@[simp ↓] theorem aq9{t sz bytes:Nat}{x y:X}:jn T (.app t sz bytes x y) dst s K=oA (ie s.env.get s.H s.H.l (.app t sz bytes x y)) (kp s dst K) .mk:=(rfl)
@[simp ↓] theorem ar7{t sz bytes:Nat}{x y:X}:ky T (.app t sz bytes x y) dst s Q=oA (ie s.env.get s.H s.H.l (.app t sz bytes x y)) (kt s dst (ik s.env.get s.H (.app t sz bytes x y)) Q) .mk:=(rfl)
@[simp ↓] theorem arp{sz:Nat}{x y:X}:jn T (.copy sz x y) dst s K=oA (ie s.env.get s.H s.H.l (.copy sz x y)) (kp s dst K) .mk:=(rfl)
@[simp ↓] theorem ash{sz:Nat}{x y:X}:ky T (.copy sz x y) dst s Q=oA (ie s.env.get s.H s.H.l (.copy sz x y)) (kt s dst (ik s.env.get s.H (.copy sz x y)) Q) .mk:=(rfl)
@[simp ↓] theorem arE{k:B3}{x:X}:jn T (.len k x) dst s K=oA (ie s.env.get s.H s.H.l (.len k x)) (kp s dst K) .mk:=(rfl)
@[simp ↓] theorem ast{k:B3}{x:X}:ky T (.len k x) dst s Q=oA (ie s.env.get s.H s.H.l (.len k x)) (kt s dst (ik s.env.get s.H (.len k x)) Q) .mk:=(rfl)
@[simp ↓] theorem arI{a:Bool}{xs:List X}:jn T (.minmax a xs) dst s K=oA (ie s.env.get s.H s.H.l (.minmax a xs)) (kp s dst K) .mk:=(rfl)
@[simp ↓] theorem asw{a:Bool}{xs:List X}:ky T (.minmax a xs) dst s Q=oA (ie s.env.get s.H s.H.l (.minmax a xs)) (kt s dst (ik s.env.get s.H (.minmax a xs)) Q) .mk:=(rfl)
@[simp ↓] theorem arP{neg:Bool}{x:X}:jn T (.nilS neg x) dst s K=oA (nv s.env.get s.H s.H.l (.nilS neg x)) (kp s dst K) .mk:=(rfl)
@[simp ↓] theorem arl{x:X}:jn T (.capE x) dst s K=oA (nv s.env.get s.H s.H.l (.capE x)) (kp s dst K) .mk:=(rfl)
@[simp ↓] theorem ara{t sz bytes:Nat}{z:List D}{x n:X}:jn T (.appZ t sz bytes z x n) dst s K=oA (nv s.env.get s.H s.H.l (.appZ t sz bytes z x n)) (kp s dst K) .mk:=(rfl)
@[simp ↓] theorem arn{sz:Nat}{z:List D}{x:X}:jn T (.clr sz z x) dst s K=oA (nv s.env.get s.H s.H.l (.clr sz z x)) (kp s dst K) .mk:=(rfl)
@[simp ↓] theorem arT{x:X}:jn T (.rangeS x) dst s K=oA (nv s.env.get s.H s.H.l (.rangeS x)) (kp s dst K) .mk:=(rfl)
@[simp ↓] theorem arO{x:X}:jn T (.nextS x) dst s K=oA (nv s.env.get s.H s.H.l (.nextS x)) (kp s dst K) .mk:=(rfl)
@[simp ↓] theorem arS{x:X}:jn T (.rangeM x) dst s K=oA (nv s.env.get s.H s.H.l (.rangeM x)) (kp s dst K) .mk:=(rfl)
@[simp ↓] theorem arN{x:X}:jn T (.nextM x) dst s K=vP (ev s.env.get x) dst s K .mk:=(rfl)
@[simp ↓] theorem arG{kk:KK}{z:D}{m k:X}:jn T (.mapEnt kk z m k) dst s K=oA (nv s.env.get s.H s.H.l (.mapEnt kk z m k)) (kp s dst K) .mk:=(rfl)
@[simp ↓] theorem arq{m k x:X}:jn T (.entSt m k x) dst s K=oA (nv s.env.get s.H s.H.l (.entSt m k x)) (kp s dst K) .mk:=(rfl)
@[simp ↓] theorem art{x:X}:jn T (.entry x) dst s K=oA (nv s.env.get s.H s.H.l (.entry x)) (kp s dst K) .mk:=(rfl)
end
end
def xI(n:Nat)(live keys:List Nat)(J:Env->gg->List Nat->Bool->Prop)(K:ju):ju:=λo=>match o with
 | .norm s=>J (forget keys (cut n live s).env) (cut n live s).H (cut n live s).marks (cut n live s).iM
 | o=>K o
@[simp ↓] theorem aaZ{n:Nat}{live keys:List Nat}{J:Env->gg->List Nat->Bool->Prop}{K:ju}{s:St}:xI n live keys J K (.norm s)=J (forget keys (cut n live s).env) (cut n live s).H (cut n live s).marks (cut n live s).iM:=(rfl)
@[simp ↓] theorem axv{n:Nat}{live keys:List Nat}{J:Env->gg->List Nat->Bool->Prop}{K:ju}{id:Nat}{s:St}:xI n live keys J K (.exit id s)=K (.exit id s):=(rfl)
@[simp ↓] theorem axx{n:Nat}{live keys:List Nat}{J:Env->gg->List Nat->Bool->Prop}{K:ju}{s:St}:xI n live keys J K (.ret s)=K (.ret s):=(rfl)
theorem gx.i{T:iL}{live:List Nat}{a:IR}{s:St}{K:ju}{α:Type}(keys:List Nat)(j:(keys.all λk=>live.contains k)=b4)(E:α->Env)(f:α->gg)(P:α->Prop)(c:α->Nat)(d:α)
  (h0:P d) (p:forget keys s.env=E d) (n:s.H=f d)
  (h:∀x,P x->XC T a { env:=E x,H:=f x,marks:=s.marks,iM:=s.iM } (xI s.H.l live keys (λe H m r=>∃b,e=E b/\H=f b/\m=s.marks/\r=s.iM/\c b<c x/\P b) K)):gx T live a s K .mk:=by
 refine Wc.loop (λm g=>∃x,P x/\m=c x/\({ g with env:=forget keys g.env }:St) = { env:=E x,H:=f x,marks:=s.marks,iM:=s.iM }) (c d) ⟨d,h0,rfl,?_⟩ ?_
 .dsimp only;rw[YC j,p];rw[<-n]
 .rintro m g ⟨x,hP,rfl,l⟩;refine Ev.H8 keys ?_;rw[l];refine(XC.wc (h x hP)).mono λo i=>?_
  cases o with
  | norm v=>
   obtain⟨b,t,z,y,w,u,h1⟩:=i;refine⟨c b,u,b,h1,rfl,?_⟩;rw[t];generalize cut s.H.l live v=q at *;cases q;simp_all
  | exit=>exact i
  | ret=>exact i
def gx.j{T:iL}{live:List Nat}{a:IR}{s:St}{K:ju}{α:Type}(b:α)(E:α->Env)(d:α->gg)(P:α->Prop)(f:α->Nat)
  (h0:P b) (j:forget ((E b).map (·.1)) s.env=E b) (i:s.H=d b) (g:(((E b).map (·.1)).all λk=>live.contains k)=b4)
  (h:∀x,P x->XC T a { env:=E x,H:=d x,marks:=s.marks,iM:=s.iM } (xI s.H.l live ((E b).map (·.1)) (λe H m r=>∃c,e=E c/\H=d c/\m=s.marks/\r=s.iM/\f c<f x/\P c) K)):gx T live a s K .mk:=
 gx.i ((E b).map (·.1)) g E d P f b h0 j i h
@[simp] theorem uo{n:Nat}{live:List Nat}{env:Env}{H:gg}{m:List Nat}{r:Bool}(h:H.l<=n):cut n live { env:=env,H:=H,marks:=m,iM:=r } = { env:=forget live env,H:=H,marks:=m,iM:=r }:=W8 h
def Is(x:D):D->gg->Prop:=λd Hn=>d=x/\Hn = []
@[simp] theorem aqx(x d:D)(H:gg):Is x d H=(d=x/\H = []):=rfl
@[simp] theorem azb(x:Bool)(a b:D):DE (.b x) a b=aE (cond x a b):=by cases x<;>rfl
@[simp] theorem ayn(c:Bool)(a b d e:D)(P:D->Prop):oA (DE (bif c then a else b) d e) P .mk=X2 c (oA (DE a d e) P .mk) (oA (DE b d e) P .mk) .mk:=by cases c<;>simp
@[simp] theorem aaN{n:Nat}{H:gg}{d:D}(h:H.l<=n)(own:Nat):leave own n H d=(d,H):=by unfold leave;rw[if_pos (.inl h)]
@[simp] theorem aw3{n:Nat}{H:gg}{d:D}:leave 4 n H d=(d,H):=by unfold leave;rw[if_pos (.inr rfl)]
section
variable{P:D->Prop}{a b:Int}
@[simp] theorem ax6:oA (kA .add .i64 a b) P .mk=(pj (a+b)/\P (.i (a+b))):=by simp only[kA,if_true];rw[Dz,BB]
@[simp] theorem ays:oA (kA .sub .i64 a b) P .mk=(pj (a-b)/\P (.i (a-b))):=by simp only[kA,if_true];rw[Dz,BB]
@[simp] theorem aym:oA (kA .mul .i64 a b) P .mk=(pj (a*b)/\P (.i (a*b))):=by simp only[kA,if_true];rw[Dz,BB]
end
def wI(a b:Int):Int:=IntKind.i64.wrap (a.tdiv b)
def gJ(a b:Int):Int:=a.tmod b
def nH{n:Int}(h:pj n):IntKind.i64.wrap n=n:=by unfold pj at h;simp only[IntKind.wrap,IntKind.bits,IntKind.signed];simp;omega
def wJ{a b:Int}(h0:0<=a)(h1:a<=9223372036854775807)(c:0<b):wI a b=a / b:=by unfold wI;rw[Int.tdiv_eq_ediv_of_nonneg h0,nH];have e:0<=a / b:=Int.ediv_nonneg h0 U;have d:a / b<=a:=Int.ediv_le_self b h0;exact gU
def jO{a b:Int}(h0:0<=a):gJ a b=a % b:=Int.tmod_eq_emod_of_nonneg h0
section
variable{P:D->Prop}{a b:Int}{t:Tag P}
@[simp] theorem ayo:oA (kA .quo .i64 a b) P t=(b≠0/\P (.i (wI a b))):=by
 cases t;simp only[kA]
 by_cases h:b=0<;>simp[h,wI]
@[simp] theorem ayq:oA (kA .rem .i64 a b) P t=(b≠0/\P (.i (gJ a b))):=by
 cases t;simp only[kA]
 by_cases h:b=0<;>simp[h,gJ]
end
@[simp] theorem awf(n:Int):pj n=(-9223372036854775808<=n/\n<=9223372036854775807):=rfl
def gt{α:Type}[Inhabited α](l:List α)(n:Int):α:=l.getD n.n default
def gF{α:Type}[Inhabited α]{l:List α}{n:Int}(h0:0<=n)(h:n<l.l):gt l n∈l:=by unfold gt;rw[bs,bb U,a7];exact bU _
def iV{α:Type}[Inhabited α]{l:List α}{n:Int}(h0:0<=n)(h:n<l.l):gt l n=l[n.n]:=by unfold gt;rw[bs,bb U,a7]
def CF{α:Type}[Inhabited α]{l:List α}{n:Nat}(h:n<l.l):gt l n=l[n]:=iV U U
def jI{α:Type}[Inhabited α]{l:List α}{n:Int}(h0:0<=n)(h:n<l.l):l.take (n+1).n=l.take n.n ++ [gt l n]:=by rw[iV h0 h,<-List.take_succ_eq_append_getElem U];congr 1;omega
def o7{α:Type}[Inhabited α]{l:List α}{n:Int}(h0:0<=n)(h:n<l.l):l.drop n.n=gt l n::l.drop (n.n+1):=by rw[iV h0 h];exact bL U
def xJ{α:Type}[Inhabited α]{l:List α}{x:α}:x∈l↔∃n:Int,0<=n/\n<l.l/\gt l n=x:=by
 constructor
 .intro h;obtain⟨i,hi,e⟩:=List.getElem_of_mem h;exact⟨i,U,U,by rw[CF hi,e]⟩
 .rintro⟨n,h0,h1,rfl⟩;exact gF h0 h1
def lW{α:Type}{l:List α}{n:Int}(h:(l.l:Int)<=n):l.take n.n=l:=af U
section
variable{α:Type}[Inhabited α]{sz:Nat}{f:α->List D}{P:D->Prop}{k:IntKind}
theorem zS{l:List α}{n:Int}:oA (ni sz (.sl sz (l.map f)) (.val (.int k n))) P .mk=((0<=n/\n<l.l)/\P (.gH (f (gt l n)))):=by
 simp only[ni,dx,true_and,Dz,BB];refine propext ⟨λ⟨h,a⟩=>⟨h,?_⟩,λ⟨h,a⟩=>⟨h,?_⟩⟩
 .rw[bs,ax,bb U,aK,a7]at a;unfold gt;rw[bs,bb U,a7];exact a
 .rw[bs,ax,bb U,aK,a7];unfold gt at a;rw[bs,bb U,a7]at a;exact a
@[simp] theorem ayc{l:List α}{n:Int}:oA (ni sz (.sl sz (l.map f)) (.val (.int k n))) P .mk=((0<=n/\n<l.l)/\P (.gH (f (gt l n)))):=zS
@[simp] theorem ayb{l:List Int}{n:Int}:oA (ni 1 (dI l) (.val (.int k n))) P .mk=((0<=n/\n<l.l)/\P (.gH [.i (gt l n)])):=by unfold dI;rw[zS,EN]
@[simp] theorem ayh{l:List Pos}{n:Int}:oA (ni 5 (gT l) (.val (.int k n))) P .mk=((0<=n/\n<l.l)/\P (.gH (gt l n).cells)):=zS
@[simp] theorem ayg{l:List gj}{n:Int}:oA (ni 2 (iu l) (.val (.int k n))) P .mk=((0<=n/\n<l.l)/\P (.gH [.i (gt l n).1,.i (gt l n).2])):=by unfold iu;rw[zS,Cv]
@[simp] theorem aye{l:List α}{n:Int}:oA (ni sz (dN sz f l) (.val (.int k n))) P .mk=((0<=n/\n<l.l)/\P (.gH (f (gt l n)))):=by
 cases l with
 | nil=>
  simp only[dN,ni,abz,dh];refine propext ⟨λh=>h.elim,λ⟨h,_⟩=>?_⟩;have:=h.1;have:=h.2;simp at this;omega
 | cons a l=>exact zS
end
def JR(H:gg)(k:Nat)(ρ:Nat->Option Nat)(v g sz off n:Nat):Option Nat->D
 | some v'=>.gh v' g sz off n
 | none=>match rowAt H v g with
  | some (_,cs)=>if (off+n)*sz<=cs.l then .sl sz (chunks sz n ((cs.drop (off*sz)).map (gA ρ H k)))else .any
  | none=>.any
@[simp] theorem U3(ρ:Nat->Option Nat)(H:gg)(k v g sz off n:Nat):gA ρ H (k+1) (.gh v g sz off n)=JR H k ρ v g sz off n (ρ v):=by rw[gA,if_neg (by simp[closed])];unfold JR;rfl
@[simp] theorem apv(H:gg)(k:Nat)(ρ:Nat->Option Nat)(v g sz off n v':Nat):JR H k ρ v g sz off n (aE v') = .gh v' g sz off n:=rfl
def JS(H:gg)(k:Nat)(ρ:Nat->Option Nat)(v g off:Nat):Option Nat->D
 | some v'=>.ptr v' g off
 | none=>match rowAt H v g with
  | some (_,cs)=>.gH ((cs.drop off).map (gA ρ H k))
  | none=>.any
@[simp] theorem apA(ρ:Nat->Option Nat)(H:gg)(k v g off:Nat):gA ρ H (k+1) (.ptr v g off)=JS H k ρ v g off (ρ v):=by rw[gA,if_neg (by simp[closed])];unfold JS;rfl
@[simp] theorem apw(H:gg)(k:Nat)(ρ:Nat->Option Nat)(v g off v':Nat):JS H k ρ v g off (aE v') = .ptr v' g off:=rfl
def Qp:Option Nat->D
 | some v'=>.gM v'
 | none=>.any
@[simp] theorem apz(ρ:Nat->Option Nat)(H:gg)(k v:Nat):gA ρ H (k+1) (.gM v)=Qp (ρ v):=by rw[gA,if_neg (by simp[closed])];unfold Qp;rfl
@[simp] theorem apu(v:Nat):Qp (aE v) = .gM v:=rfl
@[simp] theorem azR:Qp cj = .any:=rfl
@[simp] theorem az1{ρ:Nat->Option Nat}{H:gg}{k:Nat}{d:D}(h:closed d=b4):gA ρ H k d=d:=sq h
@[simp] theorem WQ(cs:List D):closed (.agg cs)=gN cs:=by simp only[closed]
@[simp] theorem auW(cs:List D):closed (.tup cs)=gN cs:=by simp only[closed]
@[simp] theorem auS(cs:List D):closed (.gH cs)=gN cs:=by simp only[closed]
@[simp] theorem auX(v:Value):closed (.val v)=true:=by simp only[closed]
@[simp] theorem auR:closed .gp=true:=by simp only[closed]
@[simp] theorem WT(f:Fn)(a b:List D):closed (.fn f a b)=(gN a&&gN b):=by simp only[closed]
@[simp] theorem auU(v g sz off n:Nat):closed (.gh v g sz off n)=false:=by simp only[closed]
@[simp] theorem auV(v g o:Nat):closed (.ptr v g o)=false:=by simp only[closed]
@[simp] theorem auY(v:Nat):closed (.jt v)=false:=by simp only[closed]
theorem Dt{ρ:Nat->Option Nat}{H:gg}{k:Nat}{cs:List D}(h:gN cs=b4):cs.map (gA ρ H k)=cs:=by
 conv=>rhs;rw[<-bf cs]
 exact aw λd a=>sq (mL h d a)
@[simp] theorem apy(ρ:Nat->Option Nat)(H:gg)(k:Nat)(cs:List D):gA ρ H (k+1) (.agg cs) = .agg (cs.map (gA ρ H k)):=by
 by_cases h:closed (.agg cs)=b4
 .rw[sq h,Dt (by simpa using h)]
 .rw[gA,if_neg h]
@[simp] theorem apB(ρ:Nat->Option Nat)(H:gg)(k:Nat)(cs:List D):gA ρ H (k+1) (.tup cs) = .tup (cs.map (gA ρ H k)):=by
 by_cases h:closed (.tup cs)=b4
 .rw[sq h,Dt (by simpa using h)]
 .rw[gA,if_neg h]
@[simp] theorem az2(ρ:Nat->Option Nat)(H:gg)(k:Nat)(c:Bool)(a b:D):gA ρ H k (bif c then a else b)=bif c then gA ρ H k a else gA ρ H k b:=by cases c<;>rfl
theorem U1{ρ:Nat->Option Nat}{H:gg}{k:Nat}{cs:List D}(h:gN cs=b4):cs.map (gA ρ H (k+1))=cs:=by
 conv=>rhs;rw[<-bf cs]
 exact aw λd a=>sq (mL h d a)
theorem Rf{α:Type}{sz:Nat}{f:α->List D}(b:∀a,(f a).l=sz):∀l:List α,chunks sz l.l (l.map f).flatten=l.map f
 | []=>rfl
 | a::l=>by simp only[aL,chunks,ek,a8];rw[aZ (by rw[b];exact di _),af (by rw[b];exact di _),eP (by rw[b];exact di _),bF (by rw[b];exact di _),bI,Rf b l]
def aiG{α:Type}{sz:Nat}{f:α->List D}(c:∀a,(f a).l=sz)(l:List α):(l.map f).flatten.l=l.l*sz:=by
 induction l with
 | nil=>simp
 | cons a l b=>simp only[ek,a8,ar,c,b,aL,cN];omega
def NS{a b:List D}:gN (a++b)=(gN a&&gN b):=by
 induction a with
 | nil=>rfl
 | cons d a c=>simp only[cy,gN,c,Bool.and_assoc]
def aej{α:Type}{f:α->List D}(c:∀a,gN (f a)=b4)(l:List α):gN (l.map f).flatten=true:=by
 induction l with
 | nil=>rfl
 | cons a l b=>simp only[ek,a8,NS,c,b];rfl
class Fl {α:Type} (f:α->List D) (sz:outParam Nat):Prop where
 len:∀a,(f a).l=sz
 cl:∀a,gN (f a)=b4
instance:Fl f1 1:=⟨λ_=>gf,λ_=>by simp[gN]⟩
instance:Fl fB 1:=⟨λ_=>gf,λ_=>by simp[gN]⟩
instance:Fl fS 2:=⟨λ_=>gf,λ_=>by simp[gN]⟩
instance:Fl fP 1:=⟨λ_=>gf,λ_=>by simp[gN]⟩
instance:Fl fI 1:=⟨λ_=>gf,λ_=>by simp[gN]⟩
instance:Fl Pos.cells 5:=⟨λ_=>rfl,λ_=>gf⟩
instance:Fl Kind.cells 3:=⟨λ_=>rfl,λ_=>gf⟩
instance:Fl Clause.cells 4:=⟨λ_=>rfl,λ_=>gf⟩
section
variable{α:Type}{f:α->List D}{sz:Nat}
@[simp] theorem aee:cl f [] = []:=by rw[pN];rfl
@[simp] theorem Cf(a b:List α):cl f a++cl f b=cl f (a++b):=by simp[pN]
theorem rK(l:List α)(a:α):cl f l++f a=cl f (l ++ [a]):=by simp[pN]
theorem nS(l:List α)(a:α):cl f (a::l)=f a++cl f l:=by simp[pN]
variable [F:Fl f sz]
include F
@[simp] theorem rJ(l:List α):(cl f l).l=l.l*sz:=by rw[pN];exact aiG F.len l
theorem y9:∀(l:List α) (n:Nat),(cl f l).take (n*sz)=cl f (l.take n)
 | [],n=>gf
 | a::l,0=>gf
 | a::l,n+1=>by rw[nS,List.take_succ_cons,nS,<-y9 l n,cN,List.take_append,F.len,af (by rw[F.len];omega)];congr 2;omega
theorem vX:∀(l:List α) (n:Nat),(cl f l).drop (n*sz)=cl f (l.drop n)
 | [],n=>gf
 | a::l,0=>gf
 | a::l,n+1=>by rw[nS,List.drop_succ_cons,<-vX l n,cN,fr,F.len,bF (by rw[F.len];omega),bI];congr 1;omega
@[simp] theorem auy(l:List α):(cl f l).take (l.l*sz)=cl f l:=by rw[y9,cQ]
@[simp] theorem vW(l:List α):gN (cl f l)=true:=by rw[pN];exact aej F.cl l
@[simp] theorem auv{ρ:Nat->Option Nat}{H:gg}(l:List α):(cl f l).map (gA ρ H 40)=cl f l:=U1 (vW l)
@[simp] theorem wZ{k:Nat}(l:List α):closed (.sl k (l.map f))=true:=by simp only[closed];exact EG F.cl l
theorem WM(l:List α)(n j:Nat)(c:j<sz):(cl f l)[n*sz+j]? = (l[n]?).bind λa=>(f a)[j]? := by
 have h:(cl f l)[n*sz+j]? = ((cl f l).drop (n*sz))[j]? := by rw[aM]
 rw[h,vX]
 by_cases b:n<l.l
 .rw[bL b,nS,ah (by rw[F.len];exact c),bb b];rfl
 .have d:l[n]? = none:=cG (ft b);rw[bF (ft b),d];simp
theorem aef(l:List α)(n:Nat)(a:α)(h:n<l.l):(cl f l).take (n*sz)++f a++(cl f l).drop (n*sz+sz)=cl f (l.take n++a::l.drop (n+1)):=by rw[y9,<-cN,vX,<-Cf,nS,aN]
end
@[simp] theorem auh(l:List Int)(n:Nat):(cl f1 l).take n=cl f1 (l.take n):=by simpa using y9 (f:=f1) l n
@[simp] theorem auf(l:List Int)(n:Nat):(cl f1 l).drop n=cl f1 (l.drop n):=by simpa using vX (f:=f1) l n
@[simp] theorem aug(l:List Int)(n:Int):cl f1 l ++ [.i n]=cl f1 (l ++ [n]):=by rw[<-rK,EN]
@[simp] theorem auk(l:List (List Int))(x:List Int):cl fI l ++ [dI x]=cl fI (l ++ [x]):=by rw[<-rK,agE]
@[simp] theorem auo(l:List (List gj))(x:List gj):cl fP l ++ [iu x]=cl fP (l ++ [x]):=by rw[<-rK,agF]
@[simp] theorem auq(l:List gj)(a b:Int):cl fS l ++ [.i a,.i b]=cl fS (l ++ [(a,b)]):=by rw[<-rK,Cv]
@[simp] theorem aup(l:List Pos)(a b c:List Int)(r q:Int):cl Pos.cells l ++ [dI a,dI b,dI c,.i r,.i q]=cl Pos.cells (l ++ [⟨a,b,c,r,q⟩]):=by rw[<-rK];rfl
@[simp] theorem azc(p:Pos):Pos.mk p.cs p.h0 p.h1 p.gX p.side=p:=rfl
@[simp] theorem ax7{l:List Int}{n:Int}{P:D->Prop}:oA (cl f1 l)[n.n]? P .mk=(n.n<l.l/\P (.i (gt l n))):=by
 have h:=WM (f:=f1) l n.n 0 U;simp only[eZ,cJ]at h;rw[h]
 by_cases a:n.n<l.l
 .rw[bb a];have e:gt l n=l[n.n]:=by unfold gt;rw[bs,bb a];rfl
  simp[a,e]
 .rw[cG U];simp[a]
@[simp] theorem ajk{α:Type}[Inhabited α]{f:α->List D}{sz:Nat}[F:Fl f sz]{l:List α}{t:TypeId}{n:Int}{P:D->Prop}(b:0<sz):oA (wD sz (n.n*sz) (aE (t,cl f l))) P .mk=(n.n<l.l/\P (.agg (f (gt l n)))):=by
 simp only[wD,rJ,<-cN];rw[Dz,BB];have h:n.n.succ*sz<=l.l*sz↔n.n<l.l:=fu b;rw[h];refine propext ⟨λ⟨a,p⟩=>⟨a,?_⟩,λ⟨a,p⟩=>⟨a,?_⟩⟩
 .have e:gt l n=l[n.n]:=by unfold gt;rw[bs,bb a];rfl
  rw[vX,bL a,nS,aZ (by rw[F.len];exact di _),af (by rw[F.len];exact di _),<-e]at p;exact p
 .have e:gt l n=l[n.n]:=by unfold gt;rw[bs,bb a];rfl
  rw[vX,bL a,nS,aZ (by rw[F.len];exact di _),af (by rw[F.len];exact di _),<-e];exact p
def oj(ρ:Nat->Option Nat)(H:gg)(k sz off n:Nat):Option (TypeId×List D)->D
 | some (_,cs)=>if (off+n)*sz<=cs.l then .sl sz (chunks sz n ((cs.drop (off*sz)).map (gA ρ H k)))else .any
 | none=>.any
@[simp] theorem acA(H:gg)(k:Nat)(ρ:Nat->Option Nat)(v g sz off n:Nat):JR H k ρ v g sz off n cj=oj ρ H k sz off n (rowAt H v g):=by unfold JR oj;rfl
@[simp] theorem xd{α:Type}{f:α->List D}{sz:Nat}[F:Fl f sz]{ρ:Nat->Option Nat}{H:gg}{k n:Nat}{t:TypeId}{l:List α}(h:n=l.l):oj ρ H (k+1) sz 0 n (aE (t,cl f l)) = .sl sz (l.map f):=by subst h;unfold oj;dsimp only;rw[rJ,if_pos gf,c9,eY,U1 (vW l),pN,Rf F.len]
@[simp] theorem avD{ρ:Nat->Option Nat}{H:gg}{k sz:Nat}{p:TypeId×List D}:oj ρ H k sz 0 0 (aE p) = .sl sz []:=by unfold oj;simp[chunks]
@[simp] theorem aAl:D.sl 1 []=dI []:=by unfold dI;rfl
@[simp] theorem aAm:D.sl 2 []=iu []:=by unfold iu;rfl
@[simp] theorem avF{ρ:Nat->Option Nat}{H:gg}{k:Nat}{t:TypeId}{a b c:List Int}{r q:Int}:oj ρ H (k+1) 5 0 1 (aE (t,[dI a,dI b,dI c,.i r,.i q]))=gT [⟨a,b,c,r,q⟩]:=by have h:=xd (f:=Pos.cells) (ρ:=ρ) (H:=H) (k:=k) (t:=t) (l:=[⟨a,b,c,r,q⟩]) (n:=1) rfl;rw[pN]at h;unfold gT;exact h
@[simp] theorem aAq(l:List Int):D.sl 1 (l.map f1)=dI l:=by unfold dI;rfl
@[simp] theorem aAt(l:List Pos):D.sl 5 (l.map Pos.cells)=gT l:=by unfold gT;rfl
@[simp] theorem aAs(l:List gj):D.sl 2 (l.map fS)=iu l:=by unfold iu;rfl
def wN(ρ:Nat->Option Nat)(H:gg):Option Ob->Ob
 | some o=>qv ρ H o
 | none=>.dead
@[simp] theorem az0(ρ:Nat->Option Nat)(H:gg)(t g:Nat)(cs:List D):wN ρ H (aE (.row t g cs)) = .row t g (cs.map (gA ρ H 40)):=rfl
@[simp] theorem azX(ρ:Nat->Option Nat)(H:gg)(kk:KK)(es:List (Value×D)):wN ρ H (aE (.map kk es)) = .map kk (es.map λx=>(x.1,gA ρ H 40 x.2)):=rfl
@[simp] theorem azV(ρ:Nat->Option Nat)(H:gg):wN ρ H (aE .dead) = .dead:=rfl
@[simp] theorem azW(ρ:Nat->Option Nat)(H:gg):wN ρ H (aE .ka) = .ka:=rfl
@[simp] theorem azZ(ρ:Nat->Option Nat)(H:gg)(rf:Nat)(e:Env)(st:sB):wN ρ H (aE (.iE rf e st)) = .iE rf (e.map λx=>(x.1,gA ρ H 40 x.2)) st:=rfl
@[simp] theorem axU:Dx []=false:=(rfl)
@[simp] theorem axT(k:Nat)(l:List Nat):Dx (k::l)=decide (k=9999):=by
 show en k 9999=_
 cases a:en k 9999 with
 | true=>exact(decide_eq_true (cF a)).symm
 | false=>exact(decide_eq_false (Nat.ne_of_beq_eq_false a)).symm
@[simp] theorem Rn{n:Nat}{l:List Nat}{s:St}:cut n (9999::l) s = { s with env:=forget (9999::l) s.env }:=by unfold cut;dsimp only;rw[if_pos (.inr rfl)]
def Ro(env:Env)(H:gg)(m:List Nat)(r:Bool)(ks:oQ):St:={ env:=env.map λp=>(p.1,gA (jc ks) H 40 p.2),H:=ks.map λp=>if p.2 then wN (jc ks) H H[p.1]? else .dead,marks:=m.map λv=>(jc ks v).getD v,iM:=r }
def UJ(n:Nat)(env:Env)(H:gg)(m:List Nat):List Nat:=dedup (((env.map λp=>jP n p.2).flatten++((H.take n).map (pZ n)).flatten++m.filter (n<=·)).filter (· < H.l))
@[simp low] theorem uU{n:Nat}{live:List Nat}{env:Env}{H:gg}{m:List Nat}{r:Bool}(h:¬H.l<=n)(a:Dx live=cp):cut n live { env:=env,H:=H,marks:=m,iM:=r }=Ro (forget live env) H m r (jC n (UJ n (forget live env) H m)):=by unfold cut Ro UJ;dsimp only;rw[if_neg (by rw[a];simpa using h)];rfl
@[simp] theorem awj(K:List Nat):jC 0 K=K.map λv=>(v,b4):=rfl
@[simp] theorem awk(K:List Nat):jC 1 K=(0,b4)::K.map λv=>(v,b4):=rfl
@[simp] theorem awv(K:List Nat):jC 2 K=(0,b4)::(1,b4)::K.map λv=>(v,b4):=rfl
@[simp] theorem awA(K:List Nat):jC 3 K=(0,b4)::(1,b4)::(2,b4)::K.map λv=>(v,b4):=rfl
@[simp] theorem awB(K:List Nat):jC 4 K=(0,b4)::(1,b4)::(2,b4)::(3,b4)::K.map λv=>(v,b4):=rfl
def BJ(i:Nat):oQ->Nat->Option Nat
 | [],_=>cj
 | p::r,v=>if p.2&&p.1 == v then aE i else BJ (i+1) r v
def aoR(ks:oQ)(v:Nat):jc ks v=BJ 0 ks v:=by
 have key:∀(ks:oQ) (i:Nat),BJ i ks v=(ks.findIdx? (λp=>p.2&&p.1 == v)).map (· + i):=by
  intro ks
  induction ks with
  | nil=>intro i;rfl
  | cons p r a=>
   intro i;rw[List.findIdx?_cons];unfold BJ;split
   .simp
   .rw[a,Option.map_map];congr 1;funext x;simp;omega
 rw[key];simp[jc]
@[simp] theorem azI(v:Nat):jc [] v=none:=rfl
@[simp] theorem azH(p:Nat×Bool)(r:oQ)(v:Nat):jc (p::r) v=if (p.2&&p.1 == v)=b4 then aE 0 else BJ 1 r v:=by rw[aoR];rfl
@[simp] theorem azG(i v:Nat):BJ i [] v=none:=rfl
@[simp] theorem azF(i:Nat)(p:Nat×Bool)(r:oQ)(v:Nat):BJ i (p::r) v=if (p.2&&p.1 == v)=b4 then aE i else BJ (i+1) r v:=rfl
@[simp] theorem au3(env:Env)(H:gg)(m:List Nat)(r:Bool)(ks:oQ):Ro env H m r ks = { env:=env.map λp=>(p.1,gA (jc ks) H 40 p.2),H:=ks.map λp=>if p.2 then wN (jc ks) H H[p.1]? else .dead,marks:=m.map λv=>(jc ks v).getD v,iM:=r }:=rfl
@[simp] theorem azo(n:Nat)(env:Env)(H:gg)(m:List Nat):UJ n env H m=dedup (((env.map λp=>jP n p.2).flatten++((H.take n).map (pZ n)).flatten++m.filter (n<=·)).filter (· < H.l)):=rfl
@[simp] theorem au5:dedup [] = []:=rfl
@[simp] theorem au4(x:Nat)(r:List Nat):dedup (x::r)=if x∈r then dedup r else x::dedup r:=rfl
theorem QI(n:Nat){d:D}(h:closed d=b4):jP n d = []:=by cases d<;>first|rfl|cases h
@[simp] theorem aAY(n:Nat)(l:List Int):jP n (dI l) = []:=rfl
@[simp] theorem aA3(n:Nat)(l:List Pos):jP n (gT l) = []:=rfl
@[simp] theorem aA1(n:Nat)(p:Pos):jP n (dP p) = []:=rfl
@[simp] theorem aA2(n:Nat)(l:List gj):jP n (iu l) = []:=rfl
@[simp] theorem aAX(n:Nat)(g:gv):jP n (dG g) = []:=rfl
@[simp] theorem aAV(n:Nat)(g:gv):jP n g.ki = []:=rfl
@[simp] theorem aAZ{α:Type}(n sz:Nat)(f:α->List D)(l:List α):jP n (dN sz f l) = []:=by cases l<;>rfl
@[simp] theorem aBg(n:Nat)(v:Value):jP n (.val v) = []:=rfl
@[simp] theorem aAU(n:Nat):jP n .any = []:=rfl
@[simp] theorem aA6(n:Nat):jP n .gp = []:=rfl
@[simp] theorem aAT(n:Nat)(cs:List D):jP n (.agg cs) = []:=rfl
@[simp] theorem aBf(n:Nat)(cs:List D):jP n (.tup cs) = []:=rfl
@[simp] theorem aA8(n:Nat)(cs:List D):jP n (.gH cs) = []:=rfl
@[simp] theorem aBe(n sz:Nat)(es:List (List D)):jP n (.sl sz es) = []:=rfl
@[simp] theorem aA7(n:Nat)(f:Fn)(a b:List D):jP n (.fn f a b) = []:=rfl
@[simp] theorem aBb(n v g sz off len:Nat):jP n (.gh v g sz off len)=if n<=v then [v]else []:=rfl
@[simp] theorem aBd(n v g off:Nat):jP n (.ptr v g off)=if n<=v then [v]else []:=rfl
@[simp] theorem aBa(n v:Nat):jP n (.gM v)=if n<=v then [v]else []:=rfl
@[simp] theorem aBh(n v:Nat):jP n (.jt v)=if n<=v then [v]else []:=rfl
theorem aoJ(n:Nat){cs:List D}(h:gN cs=b4):(cs.map (jP n)).flatten = []:=by
 induction cs with
 | nil=>rfl
 | cons d r a=>
  simp only[gN,ai]at h;simp[QI n h.1,a h.2]
@[simp] theorem auu(n:Nat){α:Type}{f:α->List D}{sz:Nat}[F:Fl f sz](l:List α):((cl f l).map (jP n)).flatten = []:=aoJ n (vW l)
@[simp] theorem ayy(n t g:Nat)(cs:List D):pZ n (.row t g cs)=(cs.map (jP n)).flatten:=rfl
@[simp] theorem ayv(n:Nat)(kk:KK)(es:List (Value×D)):pZ n (.map kk es)=(es.map λx=>jP n x.2).flatten:=rfl
@[simp] theorem ayt(n:Nat):pZ n .dead = []:=rfl
theorem Pz{H:gg}{d:D}(h:H≠[]):leave 0 0 H d=(gA (λ_=>cj) H 40 d,[]):=by unfold leave;rw[if_neg (by rintro(e|e);exact h (aC.1 U);cases e)];rfl
@[simp] theorem aw5{o:Ob}{r:gg}{d:D}:leave 0 0 (o::r) d=(gA (λ_=>cj) (o::r) 40 d,[]):=Pz gf
attribute [simp] and_assoc Kind.cells Clause.cells dP Pos.cells dG gv.cells gv.ki
def lG(T:iL)(n:Nat)(live:List Nat)(a:IR)(s:St)(K:ju)(_:Tag (live,a,s,K)):Prop:=Ev T (.loop n live (me a) s) (PO K)
def PH(T:iL)(n:Nat)(live:List Nat)(a:IR)(K:ju):ju:=λo=>match o with
 | .norm s=>lG T n live a (cut n live s) K .mk
 | o=>K o
def ack(T:iL)(v rf:Nat)(b:IR)(dst:Option Nat)(s:St)(K:St->Prop):ju:=λo=>match o with
 | .norm s1=>∃a,s1.H[v]? = aE (.iE rf a .ready)/\XC T b { s1 with H:=s1.H.set v (.iE rf a .busy) } (DG v rf dst s K)
 | _=>False
def sD.r{T:iL}{v rf:Nat}{args:List D}{dst:Option Nat}{s:St}{K:St->Prop}{env0:Env}{Rd:sC}(e:s.H[v]? = aE (.iE rf env0 .ready))(i:T.round rf=aE Rd)(hl:args.l=Rd.params.l)
  (c b:IR) (g:me c=Rd.a) (f:me b=Rd.b)
  (h:XC T c { env:=vG Rd.params args env0,H:=s.H,iM:=b4 } (ack T v rf b dst s K)):sD T v args dst s K .mk:=by
 refine⟨rf,env0,Rd,e,i,hl,?_⟩;rw[<-g];refine(XC.wc h).mono λo a=>?_
 cases o with
 | norm s1=>
  obtain⟨d,h1,j⟩:=a;exact⟨s1,d,rfl,h1,by rw[<-f];exact XC.wc j⟩
 | exit=>exact a.elim
 | ret=>exact a.elim
def aoZ(rf:Nat)(s:St)(K:ju):D->gg->Prop:=λ_ H'=>∃env st,H'[s.H.l+1]? = aE (.iE rf env st)/\oA (BG { s with H:=H'.set (s.H.l+1) .dead,marks:=s.H.l::s.marks } st) K .mk
def uP.r{T:iL}{rf:Nat}{live:List Nat}{x:X}{s:St}{K:ju}{f:FuncId}{first cap:List D}{fn:jK}(b:s.iM=cp)(a:ev s.env.get x = .fn (.func f) first cap)(e:T.fn f=aE fn)(c:fn.full=b4)
  (h:Wf T f (first ++ [.jt (s.H.l+1)]++cap) (s.H ++ [.ka,.iE rf (forget live s.env) .ready]) (aoZ rf s K)):uP T rf live x s K .mk:=
 Ev.po b a e c h λd H' ⟨d',H2,g,env,st,h1,o,j,i⟩=>by cases g;exact⟨env,st,o,h1,j,o,rfl,i⟩
section
variable{T:iL}{n:Nat}{live:List Nat}{a:IR}{s:St}{K:ju}{id:Nat}
theorem gx.un(h:lG T s.H.l live a { s with env:=forget live s.env } K .mk):gx T live a s K .mk:=Ev.loop h
theorem lG.u(h:XC T a s (PH T n live a K)):lG T n live a s K .mk:=by
 refine Ev.Bt (XC.wc h) (λb ⟨o,e,k⟩=>?_) λo ⟨o',e,k⟩ hs=>?_
 .cases e;exact k
 .cases e
  cases o with
  | norm=>cases hs
  | exit=>exact⟨_,rfl,k⟩
  | ret=>exact⟨_,rfl,k⟩
@[simp ↓] theorem axz:PH T n live a K (.norm s)=lG T n live a (cut n live s) K .mk:=(rfl)
@[simp ↓] theorem axy:PH T n live a K (.exit id s)=K (.exit id s):=(rfl)
@[simp ↓] theorem axA:PH T n live a K (.ret s)=K (.ret s):=(rfl)
end
def Xk{x b:Bool}{P Q:Prop}(k:cond b P Q)(h:x=b:=by first|(show _=true;first|assumption|exact decide_eq_true jX)|(show _=false;first|assumption|exact decide_eq_false jX)):X2 x P Q .mk:=by subst h;cases x<;>simpa using k
class PB (x:Bool) (I:outParam (Prop->Prop)) (q:outParam Prop):Prop where
 t:∀ {P:Prop},I P->x=b4->P
 f:x=cp->q
instance(priority:=low){x:Bool}:PB x (λP=>x=b4->P) (x=cp):=⟨λh e=>h e,id⟩
instance{p:Prop}[Decidable p]:PB (decide p) (λP=>p->P) (¬p):=⟨λh e=>h (of_decide_eq_true e),of_decide_eq_false⟩
instance{p q:Prop}[Decidable p][Decidable q]:PB (decide p&&decide q) (λP=>p->q->P) (¬(p/\q)):=⟨λh e=>by
 rw[<-cu]at e
 exact h (of_decide_eq_true e).1 (of_decide_eq_true e).2,λe=>by rw[<-cu]at e;exact of_decide_eq_false e⟩
instance{p q:Prop}[Decidable p][Decidable q]:PB (decide p||decide q) (λP=>p\/q->P) (¬(p\/q)):=⟨λh e=>by
 rw[<-fO]at e
 exact h (of_decide_eq_true e),λe=>by rw[<-fO]at e;exact of_decide_eq_false e⟩
def Xs{x:Bool}{I:Prop->Prop}{q P Q:Prop}[c:PB x I q](h:I P)(k:q->Q):X2 x P Q .mk:=⟨c.t h,λe=>k (c.f e)⟩
def Yc{T:iL}{f:FuncId}{args:List D}{dst:Option Nat}{s:St}{K:St->Prop}{fn:jK}{x:D}(h:Wf T f args [] λd H'=>d=x/\H' = [])(k:K { s with env:=put s.env dst x })
  (c:T.fn f=aE fn:=by exact rfl) (b:fn.full=false:=by exact rfl) (e:gN args=true:=by simp) (a:closed x=true:=by simp):gE T f args dst s K .mk:=gE.c c b h e a k
def Yt{T:iL}{f:FuncId}{args:List D}{R:List Fp}{dst:Option Nat}{s:St}{Q:Rc->St->Prop}{fn:jK}{x:D}(h:Wf T f args [] λd H'=>d=x/\H' = [])(k:Q ⟨R,[]⟩ { s with env:=put s.env dst x })
  (c:T.fn f=aE fn:=by exact rfl) (b:fn.full=false:=by exact rfl) (e:gN args=true:=by simp) (a:closed x=true:=by simp):ji T f args R dst s Q .mk:=ji.c c b h e a k
def Yr{T:iL}{f:FuncId}{args pM:List D}{dst:Option Nat}{s:St}{K:St->Prop}{fn:jK}{x:D}(h:Wf T f pM [] λd H'=>d=x/\H' = [])(k:K { s with env:=put s.env dst x })
  (e:T.fn f=aE fn:=by exact rfl) (c:fn.full=false:=by exact rfl) (hs:args.map (gA (λ_=>cj) s.H 40)=pM:=by simp) (b:flat x=true:=by simp[flat]) (a:closed x=true:=by simp):gE T f args dst s K .mk:=gE.r e c h hs b a k
def Yg{T:iL}{f:FuncId}{args:List D}{H:gg}(fn:jK){K:D->gg->Prop}(h:XC T fn.body { env:=vx args,H:=H } (AP fn.results fn.own H.l K))
  (b:T.fn f=aE fn:=by exact rfl) (hl:args.l<=fn.ntmps:=by exact dm rfl) (a:vA fn.body=true:=by exact rfl):Wf T f args H K:=Wf.x b hl h a
def Yz{T:iL}{f:FuncId}{args:List D}{H:gg}(fn:jK)(c:IR){K:D->gg->Prop}(h:XC T c { env:=vx args,H:=H } (AP fn.results fn.own H.l K))
  (a:T.fn f=aE fn:=by exact rfl) (hl:args.l<=fn.ntmps:=by exact dm rfl) (b:me c=fn.body:=by simp only[BT,BU];exact pK rfl):Wf T f args H K:=Wf.xz fn.own c a hl b h
structure Bx(p:Prop):Prop where
 x:p
def nb{P:Prop}(h:P:=by(with_reducible repeat' first|refine Xk ?_<;>try simp|refine Xs ?_ ?_<;>intro h<;>(try intro a)<;>(try simp[h])<;>try omega|refine Xg ?_|omega)):P:=h
def gi{P Q:Prop}(k:Q)(h:Bx Q->P:=by intro k;(with_reducible repeat' first|refine Xk ?_<;>try simp|refine Xs ?_ ?_<;>intro h<;>(try intro a)<;>(try simp[h])<;>try omega|refine Xg ?_|omega);exact k.x):P:=h ⟨k⟩
def kz{P Q R:Prop}(k:Q)(l:R)(h:Bx Q->Bx R->P:=by intro k l;(with_reducible repeat' first|refine Xk ?_<;>try simp|refine Xs ?_ ?_<;>intro h<;>(try intro a)<;>(try simp[h])<;>try omega|refine Xg ?_|omega);(revert h;exact k.x);(revert h;exact l.x)):P:=h ⟨k⟩ ⟨l⟩
def V0{A P:Prop}(a:A)(h:A->P:=by intro a;(with_reducible repeat' first|refine Xk ?_<;>try simp[a]|refine Xs ?_ ?_<;>intro h<;>(try intro b)<;>(try simp[h,a])<;>try omega|refine Xg ?_|omega)):P:=h a
def iU{A P Q:Prop}(a:A)(k:Q)(h:A->Bx Q->P:=by intro a k;(with_reducible repeat' first|refine Xk ?_<;>try simp[a]|refine Xs ?_ ?_<;>intro h<;>(try intro b)<;>(try simp[h,a])<;>try omega|refine Xg ?_|omega);exact k.x):P:=h a ⟨k⟩
def G6{A P Q R:Prop}(a:A)(k:Q)(l:R)(h:A->Bx Q->Bx R->P:=by intro a k l;(with_reducible repeat' first|refine Xk ?_<;>try simp[a]|refine Xs ?_ ?_<;>intro h<;>(try intro b)<;>(try simp[h,a])<;>try omega|refine Xg ?_|omega);(revert h;exact k.x);(revert h;exact l.x)):P:=h a ⟨k⟩ ⟨l⟩
def V1{A B P:Prop}(b:A)(a:B)(h:A->B->P:=by intro b a;(with_reducible repeat' first|refine Xk ?_<;>try simp[b,a]|refine Xs ?_ ?_<;>intro h<;>(try intro c)<;>(try simp[h,b,a])<;>try omega|refine Xg ?_|omega)):P:=h b a
def jT{A B P Q:Prop}(b:A)(a:B)(k:Q)(h:A->B->Bx Q->P:=by intro b a k;(with_reducible repeat' first|refine Xk ?_<;>try simp[b,a]|refine Xs ?_ ?_<;>intro h<;>(try intro c)<;>(try simp[h,b,a])<;>try omega|refine Xg ?_|omega);exact k.x):P:=h b a ⟨k⟩
def adl{A B C P:Prop}(c:A)(b:B)(a:C)(h:A->B->C->P:=by intro c b a;(with_reducible repeat' first|refine Xk ?_<;>try simp[c,b,a]|refine Xs ?_ ?_<;>intro h<;>(try intro d)<;>(try simp[h,c,b,a])<;>try omega|refine Xg ?_|omega)):P:=h c b a
def kG{A B C P Q:Prop}(c:A)(b:B)(a:C)(k:Q)(h:A->B->C->Bx Q->P:=by intro c b a k;(with_reducible repeat' first|refine Xk ?_<;>try simp[c,b,a]|refine Xs ?_ ?_<;>intro h<;>(try intro d)<;>(try simp[h,c,b,a])<;>try omega|refine Xg ?_|omega);exact k.x):P:=h c b a ⟨k⟩
def adn{A B C P Q R:Prop}(c:A)(b:B)(a:C)(k:Q)(l:R)(h:A->B->C->Bx Q->Bx R->P:=by intro c b a k l;(with_reducible repeat' first|refine Xk ?_<;>try simp[c,b,a]|refine Xs ?_ ?_<;>intro h<;>(try intro d)<;>(try simp[h,c,b,a])<;>try omega|refine Xg ?_|omega);(revert h;exact k.x);(revert h;exact l.x)):P:=h c b a ⟨k⟩ ⟨l⟩
def o5{A B C D P Q:Prop}(d:A)(c:B)(b:C)(a:D)(k:Q)(h:A->B->C->D->Bx Q->P:=by intro d c b a k;(with_reducible repeat' first|refine Xk ?_<;>try simp[d,c,b,a]|refine Xs ?_ ?_<;>intro h<;>(try intro e)<;>(try simp[h,d,c,b,a])<;>try omega|refine Xg ?_|omega);exact k.x):P:=h d c b a ⟨k⟩
