/- Part 10 of DisputeSettles. -/
import Derived.Test.YtmehofoficaelaaGreatDoorS09
set_option linter.all false
namespace Go.AL
open Go
universe u
inductive Tag{α:Sort u}(a:α):Type
 | mk
def oA{α:Type}(x:Option α)(P:α->Prop)(_:Tag P):Prop:=∃a,x=some a/\P a
@[simp] theorem AJ{α:Type}(a:α)(P:α->Prop):oA (some a) P .mk=P a:=by simp[oA]
@[simp] theorem aaE{α:Type}(P:α->Prop):oA none P .mk=False:=by simp[oA]
@[simp high] theorem CH{α:Type}{c:Prop}[Decidable c](x:Option α)(P:α->Prop):oA (if c then x else none) P .mk=(c/\oA x P .mk):=by by_cases h:c<;>simp[h]
@[simp] theorem axG{α:Type}{c:Prop}[Decidable c](x y:Option α)(P:α->Prop):oA (if c then x else y) P .mk=((c->oA x P .mk)/\(¬c->oA y P .mk)):=by by_cases h:c<;>simp[h]
@[simp] theorem axH(x:Option D)(P:D×Dl->Prop):oA (lift x) P .mk=oA x (λd=>P (d,.no)) .mk:=by cases x<;>simp[lift]
@[simp] theorem axu{α b:Type}(x:Option α)(f:α->Option b)(P:b->Prop):oA (x.bind f) P .mk=oA x (λa=>oA (f a) P .mk) .mk:=by cases x<;>simp
def gB:D->Bool->Option Bool
 | .val (.bool b),want=>some (b == want)
 | .val (.tuple _),_=>some false
 | _,_=>none
@[simp] theorem au6(a:Bool):gB (.val undef) a=some false:=rfl
@[simp] theorem au5(x:Bool):gB (.b x) true=some x:=by cases x<;>rfl
@[simp] theorem au4(x:Bool):gB (.b x) false=some (!x):=by cases x<;>rfl
@[simp] theorem avi(f:gT):guardOf f none=some true:=rfl
@[simp] theorem avj(f:gT)(j:Nat)(w:Bool):guardOf f (some (j,w))=gB (f j) w:=by show(match f j with | .val (.bool b)=>some (b == w) | .val (.tuple _)=>some false|_=>none)=gB (f j) w;unfold gB;split<;>simp_all
@[simp] theorem auy(f:gT)(k:Nat):ev f (.t k)=f k:=rfl
@[simp] theorem auw(f:gT)(d:D):ev f (.c d)=d:=rfl
@[simp] theorem ayD(env:Env)(k:Nat)(d:D):put env (some k) d=(k,d)::env:=rfl
@[simp] theorem ayC(env:Env)(d:D):put env none d=env:=rfl
@[simp] theorem asd(H:U)(al:Al):Dl.no.app H al=H:=rfl
@[simp] theorem asc(H:U)(al:Al)(ob:Ob):(Dl.new ob).app H al=al.2 ob:=rfl
@[simp] theorem ase(H:U)(al:Al)(v:Nat)(ob:Ob):(Dl.obj v ob).app H al=H.set v ob:=rfl
def setCells(H:U)(v o:Nat)(xs:List D):Option Ob->U
 | some (.row t g cs)=>H.set v (.row t g (cs.take o++xs++cs.drop (o+xs.length)))
 | _=>H
@[simp] theorem ar9(H:U)(al:Al)(v o:Nat)(xs:List D):(Dl.cells v o xs).app H al=setCells H v o xs H[v]? := by show(match H[v]? with|some (.row t g cs)=>H.set v (.row t g (cs.take o++xs++cs.drop (o+xs.length)))|_=>H)=_;unfold setCells;split<;>simp_all
@[simp] theorem ay9(H:U)(v o:Nat)(xs:List D)(t g:Nat)(cs:List D):setCells H v o xs (some (.row t g cs))=H.set v (.row t g (cs.take o++xs++cs.drop (o+xs.length))):=rfl
def y6(k:IntKind)(a b:Int):Int:=k.wrap (a*2 ^ (min b.toNat k.bits))
def mB(k:IntKind)(a b:Int):Int:=a.fdiv (2 ^ (min b.toNat k.bits))
section
variable{k:IntKind}{a b:Int}
@[simp] theorem asw:kY .add (.val (.int k a)) (.val (.int k b))=jU .add k a b:=by simp[kY,pY]
@[simp] theorem asM:kY .sub (.val (.int k a)) (.val (.int k b))=jU .sub k a b:=by simp[kY,pY]
@[simp] theorem asE:kY .mul (.val (.int k a)) (.val (.int k b))=jU .mul k a b:=by simp[kY,pY]
@[simp] theorem asH:kY .quo (.val (.int k a)) (.val (.int k b))=jU .quo k a b:=by simp[kY,pY]
@[simp] theorem asI:kY .rem (.val (.int k a)) (.val (.int k b))=jU .rem k a b:=by simp[kY,pY]
@[simp] theorem asx:kY .and (.val (.int k a)) (.val (.int k b))=some (.val (.int k (bits .and k a b))):=by simp[kY,pY,jU]
@[simp] theorem asG:kY .or (.val (.int k a)) (.val (.int k b))=some (.val (.int k (bits .or k a b))):=by simp[kY,pY,jU]
@[simp] theorem asN:kY .xor (.val (.int k a)) (.val (.int k b))=some (.val (.int k (bits .xor k a b))):=by simp[kY,pY,jU]
@[simp] theorem asy:kY .andNot (.val (.int k a)) (.val (.int k b))=some (.val (.int k (bits .andNot k a b))):=by simp[kY,pY,jU]
@[simp] theorem asz:kY .eql (.val (.int k a)) (.val (.int k b))=some (.b (decide (a=b))):=by simp[kY,pY,jU,BEq.beq]
@[simp] theorem asF:kY .neq (.val (.int k a)) (.val (.int k b))=some (.b (!decide (a=b))):=by simp[kY,pY,jU,bne,BEq.beq]
@[simp] theorem asD:kY .lss (.val (.int k a)) (.val (.int k b))=some (.b (decide (a<b))):=by simp[kY,pY,jU]
@[simp] theorem asC:kY .leq (.val (.int k a)) (.val (.int k b))=some (.b (decide (a<=b))):=by simp[kY,pY,jU]
@[simp] theorem asB:kY .gtr (.val (.int k a)) (.val (.int k b))=some (.b (decide (a>b))):=by simp[kY,pY,jU]
@[simp] theorem asA:kY .geq (.val (.int k a)) (.val (.int k b))=some (.b (decide (a>=b))):=by simp[kY,pY,jU]
@[simp] theorem asJ{k2:IntKind}:kY .shl (.val (.int k a)) (.val (.int k2 b))=if 0<=b then some (.val (.int k (y6 k a b)))else none:=rfl
@[simp] theorem asK{k2:IntKind}:kY .shr (.val (.int k a)) (.val (.int k2 b))=if 0<=b then some (.val (.int k (mB k a b)))else none:=rfl
@[simp] theorem asL(op:BinOp)(s t:ByteArray):kY op (.val (.string s)) (.val (.string t))=Fu op s t:=rfl
@[simp] theorem aAB(x:Bool):Fx .not (.b x)=some (.b !x):=rfl
@[simp] theorem aAA(n:Int):Fx .neg (.i n)=if om (-n)then some (.i (-n))else none:=rfl
@[simp] theorem auk(b:IntKind):Nh b (.val (.int k a))=some (.val (.int b (b.wrap a))):=rfl
end
@[simp] theorem auE(off v g o:Nat):G0 off (.ptr v g o)=some (.ptr v g (o+off)):=rfl
@[simp] theorem auD(off:Nat)(cs:List D):G0 off (.gC cs)=some (.gC (cs.drop off)):=rfl
@[simp] theorem auF(off n:Nat)(cs:List D):Bw off n true (.agg cs)=if off+n<=cs.length then some (.agg ((cs.drop off).take n))else none:=rfl
@[simp] theorem auG(off n:Nat)(cs:List D):Bw off n false (.agg cs)=cs[off]? := rfl
@[simp] theorem auz(ds:List D)(i:Nat):NC (.tup ds) i=ds[i]? := rfl
@[simp] theorem axc(v g o:Nat):CF (.ptr v g o)=some (.ptr v g o):=rfl
@[simp] theorem axb(cs:List D):CF (.gC cs)=some (.gC cs):=rfl
@[simp] theorem axa(f:FuncId)(a b:List D):CF (.fn (.func f) a b)=some (.fn (.func f) a b):=rfl
@[simp] theorem axd(v:Nat):CF (.ja v)=some (.ja v):=rfl
def rowOf(k:Nat):Option Ob->Option (TypeId×List D)
 | some (.row t g cs)=>if g=k then some (t,cs)else none
 | _=>none
@[simp] theorem aor(H:U)(v k:Nat):rowAt H v k=rowOf k H[v]? := by unfold rowAt rowOf;split<;>simp_all
@[simp] theorem ay8(k:Nat)(t:TypeId)(g:Nat)(cs:List D):rowOf k (some (.row t g cs))=if g=k then some (t,cs)else none:=rfl
@[simp] theorem awf(v g o:Nat)(H:U):xD (.ptr v g o) H=(rowAt H v g).bind λp=>p.2[o]? := by show(match rowAt H v g with|some (_,cs)=>cs[o]? | none=>none)=_;cases rowAt H v g<;>rfl
@[simp] theorem awe(cs:List D)(H:U):xD (.gC cs) H=cs[0]? := rfl
def vf(n o:Nat):Option (TypeId×List D)->Option D
 | some p=>if o+n<=p.2.length then some (.agg ((p.2.drop o).take n))else none
 | none=>none
@[simp] theorem awm(n o:Nat):vf n o none=none:=rfl
@[simp low] theorem awn(n o:Nat)(p:TypeId×List D):vf n o (some p)=if o+n<=p.2.length then some (.agg ((p.2.drop o).take n))else none:=rfl
@[simp] theorem awh(n v g o:Nat)(H:U):wC n (.ptr v g o) H=vf n o (rowAt H v g):=by show(match rowAt H v g with|some (_,cs)=>if o+n<=cs.length then some (D.agg ((cs.drop o).take n))else none|none=>none)=_;cases rowAt H v g<;>rfl
@[simp] theorem awg(n:Nat)(cs:List D)(H:U):wC n (.gC cs) H=if n<=cs.length then some (.agg (cs.take n))else none:=rfl
@[simp] theorem az5(v g o:Nat)(x:D)(H:U):C3 (.ptr v g o) x H=(rowAt H v g).bind λp=>if o<p.2.length/\one x=true then some (.any,.cells v o [x])else none:=by show(match rowAt H v g with|some (_,cs)=>if o<cs.length/\one x=true then some (D.any,Dl.cells v o [x])else none|none=>none)=_;cases rowAt H v g<;>rfl
@[simp] theorem az6(n v g o:Nat)(xs:List D)(H:U):C6 n (.ptr v g o) (.agg xs) H=(rowAt H v g).bind λp=>if xs.length=n/\o+n<=p.2.length then some (.any,.cells v o xs)else none:=by show(match rowAt H v g with|some (_,cs)=>if xs.length=n/\o+n<=cs.length then some (D.any,Dl.cells v o xs)else none|none=>none)=_;cases rowAt H v g<;>rfl
@[simp] theorem asT(t:TypeId)(cs:List D)(n:Nat):sW t (.agg cs) n=some (.ptr n 0 0,.new (.row t 0 cs)):=rfl
@[simp] theorem atb(cs:List D):cellsOf (.agg cs)=some cs:=rfl
@[simp] theorem atn(k:IntKind)(n:Int):cellsOf (.val (.int k n))=some [.val (.int k n)]:=rfl
@[simp] theorem atc(b:Bool):cellsOf (.b b)=some [.b b]:=rfl
@[simp] theorem ats(b:ByteArray):cellsOf (.val (.string b))=some [.val (.string b)]:=rfl
@[simp] theorem atr(sz:Nat)(es:List (List D)):cellsOf (.sl sz es)=some [.sl sz es]:=rfl
@[simp] theorem ate(l:List Int):cellsOf (dI l)=some [dI l]:=rfl
@[simp] theorem ath(l:List Pos):cellsOf (gZ l)=some [gZ l]:=rfl
@[simp] theorem atg(l:List gd):cellsOf (iw l)=some [iw l]:=rfl
@[simp] theorem atf{α:Type}(sz:Nat)(f:α->List D)(l:List α):cellsOf (dN sz f l)=some [dN sz f l]:=by cases l<;>rfl
@[simp] theorem atk:cellsOf .gg=some [.gg]:=rfl
@[simp] theorem atp(v g sz off n:Nat):cellsOf (.fZ v g sz off n)=some [.fZ v g sz off n]:=rfl
@[simp] theorem atq(v g o:Nat):cellsOf (.ptr v g o)=some [.ptr v g o]:=rfl
@[simp] theorem atm(cs:List D):cellsOf (.gC cs)=some [.gC cs]:=rfl
@[simp] theorem ato(v:Nat):cellsOf (.gH v)=some [.gH v]:=rfl
@[simp] theorem atl(f:Fn)(a b:List D):cellsOf (.fn f a b)=some [.fn f a b]:=rfl
@[simp] theorem ayh(k:IntKind)(n:Int):one (.val (.int k n))=true:=rfl
@[simp] theorem ax8(b:Bool):one (.b b)=true:=rfl
@[simp] theorem aym(b:ByteArray):one (.val (.string b))=true:=rfl
@[simp] theorem ayl(sz:Nat)(es:List (List D)):one (.sl sz es)=true:=rfl
@[simp] theorem aya(l:List Int):one (dI l)=true:=rfl
@[simp] theorem ayc(l:List Pos):one (gZ l)=true:=rfl
@[simp] theorem ayb(l:List gd):one (iw l)=true:=rfl
@[simp] theorem aye:one .gg=true:=rfl
@[simp] theorem ayj(v g sz off n:Nat):one (.fZ v g sz off n)=true:=rfl
@[simp] theorem ayk(v g o:Nat):one (.ptr v g o)=true:=rfl
@[simp] theorem ayg(cs:List D):one (.gC cs)=true:=rfl
@[simp] theorem ayi(v:Nat):one (.gH v)=true:=rfl
@[simp] theorem ayf(f:Fn)(a b:List D):one (.fn f a b)=true:=rfl
@[simp] theorem as3(f:gT)(z:List D)(ps:List (Nat×Nat×X)):DG f z ps=(partsOf f ps).bind λl=>(lay l z).bind λcs=>some (D.agg cs):=by
 unfold DG;cases partsOf f ps with
 | none=>rfl
 | some l=>simp only[Option.bind_some];cases lay l z<;>rfl
@[simp] theorem as2(f:gT)(t sz:Nat)(z:List D)(m:Nat)(ps:List (Nat×X))(n:Nat):zB f t sz z m ps n=(partsOf f (ps.map λp=>(p.1*sz,sz,p.2))).bind λl=>(lay l (List.replicate m z).flatten).bind λcs=>some (.fZ n 0 sz 0 m,.new (.row t 0 cs)):=by
 unfold zB;cases partsOf f (ps.map λp=>(p.1*sz,sz,p.2))with
 | none=>rfl
 | some l=>simp only[Option.bind_some];cases lay l (List.replicate m z).flatten<;>rfl
@[simp] theorem ayu(f:gT):partsOf f []=some []:=rfl
@[simp] theorem ayt(f:gT)(o n:Nat)(x:X)(r:List (Nat×Nat×X)):partsOf f ((o,n,x)::r)=(cellsOf (ev f x)).bind λcs=>(partsOf f r).bind λl=>some ((o,n,cs)::l):=by show(match cellsOf (ev f x),partsOf f r with|some cs,some l=>some ((o,n,cs)::l)|_,_=>none)=_;cases cellsOf (ev f x)<;>cases partsOf f r<;>rfl
@[simp] theorem ahr(vs:List Value)(k:IntKind)(n:Int):mG 1 (.l9 vs) (.val (.int k n))=if 0<=n/\n<vs.length then some (.gC [.val (vs.getD n.toNat undef)])else none:=by simp[mG]
@[simp] theorem awv(vs:List Value)(H:U):mX .slice (.l9 vs) H=some (.i vs.length):=rfl
@[simp] theorem avy(sz v g off len:Nat)(k:IntKind)(n:Int):mG sz (.fZ v g sz off len) (.val (.int k n))=if 0<=n/\n<len then some (.ptr v g ((off+n.toNat)*sz))else none:=by simp[mG]
@[simp] theorem avA(sz n v g o:Nat)(k:IntKind)(i:Int):Iw sz n (.ptr v g o) (.val (.int k i))=if 0<=i/\i<n then some (.ptr v g (o+i.toNat*sz))else none:=rfl
@[simp] theorem avz(sz n:Nat)(cs:List D)(k:IntKind)(i:Int):Iw sz n (.gC cs) (.val (.int k i))=if 0<=i/\i<n then some (.gC (cs.drop (i.toNat*sz)))else none:=rfl
@[simp] theorem avB(sz n:Nat)(b:Bool)(cs:List D)(k:IntKind)(i:Int):ON sz n b (.agg cs) (.val (.int k i))=if 0<=i/\i<n then Bw (i.toNat*sz) sz b (.agg cs)else none:=rfl
@[simp] theorem asS(f:gT)(n:Int):ik f none n=some n:=rfl
def uf:D->Option Int
 | .val (.int _ n)=>some n
 | _=>none
@[simp] theorem avD(k:IntKind)(n:Int):uf (.val (.int k n))=some n:=rfl
@[simp] theorem VR(f:gT)(x:X)(n:Int):ik f (some x) n=uf (ev f x):=by show(match ev f x with | .val (.int _ n)=>some n|_=>none)=_;unfold uf;split<;>simp_all
@[simp] theorem Uw(f:gT)(sz:Nat)(es:List (List D))(lo hi:Option X):uE f sz (.sl sz es) lo hi=(ik f lo 0).bind λl=>(ik f hi es.length).bind λh=>if 0<=l/\l<=h/\h<=es.length then some (.sl sz ((es.drop l.toNat).take (h.toNat-l.toNat)))else none:=by simp only[uE];cases ik f lo 0<;>cases ik f hi es.length<;>simp
@[simp] theorem azW(f:gT)(sz v g off len:Nat)(lo hi:Option X):uE f sz (.fZ v g sz off len) lo hi=(ik f lo 0).bind λl=>(ik f hi len).bind λh=>if 0<=l/\l<=h/\h<=len then some (.fZ v g sz (off+l.toNat) (h.toNat-l.toNat))else none:=by simp only[uE];cases ik f lo 0<;>cases ik f hi len<;>simp
@[simp] theorem azV(f:gT)(sz:Nat)(lo hi:Option X):uE f sz .gg lo hi=(ik f lo 0).bind λl=>(ik f hi 0).bind λh=>if l=0/\h=0 then some .gg else none:=by simp only[uE];cases ik f lo 0<;>cases ik f hi 0<;>simp
@[simp] theorem aoV(f:gT)(sz:Nat)(es:List (List D))(lo:Option X)(hi mx:X):y7 f sz (.sl sz es) lo hi mx=(ik f lo 0).bind λl=>(uf (ev f hi)).bind λh=>(uf (ev f mx)).bind λm=>if 0<=l/\l<=h/\h=m/\m<=es.length then some (clip sz ((es.drop l.toNat).take (h.toNat-l.toNat)))else none:=by simp only[y7,VR];cases ik f lo 0<;>cases uf (ev f hi)<;>cases uf (ev f mx)<;>simp
@[simp] theorem azQ(f:gT)(sz:Nat)(lo:Option X)(hi mx:X):y7 f sz .gg lo hi mx=(ik f lo 0).bind λl=>(uf (ev f hi)).bind λh=>(uf (ev f mx)).bind λm=>if l=0/\h=0/\m=0 then some .gg else none:=by simp only[y7,VR];cases ik f lo 0<;>cases uf (ev f hi)<;>cases uf (ev f mx)<;>simp
@[simp] theorem azR(f:gT)(sz n v g o:Nat)(lo hi:Option X)(H:U):A0 f sz n (.ptr v g o) lo hi H=(ik f lo 0).bind λl=>(ik f hi n).bind λh=>(rowAt H v g).bind λp=>if o % sz=0/\o+n*sz<=p.2.length/\n<=16777216/\0<=l/\l<=h/\h<=n then some (.fZ v g sz (o / sz+l.toNat) (h.toNat-l.toNat))else none:=by
 simp only[A0]
 cases ik f lo 0 with
 | none=>rfl
 | some l=>cases ik f hi n with
  | none=>rfl
  | some h=>dsimp only;cases rowAt H v g<;>rfl
def PL{α:Type}(f:α->List D)(l:List α)(a b:Nat):((l.map f).drop a).take b=((l.drop a).take b).map f:=by rw[List.map_take,List.map_drop]
@[simp] theorem azT(f:gT)(l:List Pos)(lo hi:Option X):uE f 5 (gZ l) lo hi=(ik f lo 0).bind λa=>(ik f hi l.length).bind λh=>if 0<=a/\a<=h/\h<=l.length then some (gZ ((l.drop a.toNat).take (h.toNat-a.toNat)))else none:=by unfold gZ;rw[Uw,List.length_map];simp only[PL]
@[irreducible] def cl{α:Type}(f:α->List D)(l:List α):List D:=(l.map f).flatten
theorem nO{α:Type}(f:α->List D)(l:List α):cl f l=(l.map f).flatten:=by rw[cl]
@[simp] theorem aoZ(sz:Nat)(H:U)(es:List (List D)):kQ sz H (.sl sz es)=some (es.flatten,es.length):=by simp[kQ]
@[simp] theorem Jp{α:Type}(sz:Nat)(f:α->List D)(H:U)(l:List α):kQ sz H (.sl sz (l.map f))=some (cl f l,l.length):=by rw[aoZ,List.length_map,nO]
@[simp] theorem azX(H:U)(l:List Int):kQ 1 H (dI l)=some (cl f1 l,l.length):=by unfold dI;exact Jp ..
@[simp] theorem az0(H:U)(l:List Pos):kQ 5 H (gZ l)=some (cl Pos.cells l,l.length):=by unfold gZ;exact Jp ..
@[simp] theorem azY{α:Type}(sz:Nat)(f:α->List D)(H:U)(l:List α):kQ sz H (dN sz f l)=some (cl f l,l.length):=by
 cases l with
 | nil=>show some ([],0)=_;rw[nO];rfl
 | cons a l=>exact Jp sz f H (a::l)
@[simp] theorem az2(sz:Nat)(H:U):kQ sz H .gg=some ([],0):=rfl
@[simp] theorem az4(sz:Nat)(H:U)(v g off len:Nat):kQ sz H (.fZ v g sz off len)=(rowAt H v g).bind λp=>if (off+len)*sz<=p.2.length then some ((p.2.drop (off*sz)).take (len*sz),len)else none:=by simp only[kQ];cases rowAt H v g<;>simp
@[simp] theorem asf(t sz bytes v g len:Nat)(y:D)(H:U)(a:Nat):rK t sz bytes (.fZ v g sz 0 len) y H a=(kQ sz H y).bind λq=>(rowAt H v g).bind λr=>if r.1=t/\len*sz<=r.2.length/\(len+q.2)*bytes<=140737488355328/\len+q.2<=9223372036854775807 then some (.fZ v (g+1) sz 0 (len+q.2),.obj v (.row t (g+1) (r.2.take (len*sz)++q.1)))else none:=by
 simp only[rK]
 cases kQ sz H y with
 | none=>rfl
 | some q=>cases rowAt H v g<;>simp
@[simp low] theorem asg(t sz bytes v g off len:Nat)(y:D)(H:U)(a:Nat):rK t sz bytes (.fZ v g sz off len) y H a=(kQ sz H y).bind λq=>(rowAt H v g).bind λr=>if r.1=t/\(off+len)*sz<=r.2.length/\(len+q.2)*bytes<=140737488355328/\len+q.2<=9223372036854775807 then some (.fZ v (g+1) sz 0 (len+q.2),.obj v (.row t (g+1) ((r.2.drop (off*sz)).take (len*sz)++q.1)))else none:=by
 simp only[rK]
 cases kQ sz H y with
 | none=>rfl
 | some q=>cases rowAt H v g<;>simp
@[simp] theorem acQ(t bytes:Nat)(vs:List Value)(y:D)(H:U)(a:Nat):rK t 1 bytes (.l9 vs) y H a=(kQ 1 H y).bind λq=>if q.2≠0/\(vs.length+q.2)*bytes<=140737488355328/\vs.length+q.2<=9223372036854775807 then some (.fZ a 0 1 0 (vs.length+q.2),.new (.row t 0 (vs.map .val++q.1)))else none:=by simp only[rK];cases kQ 1 H y<;>simp
@[simp] theorem asa(t sz bytes:Nat)(y:D)(H:U)(a:Nat):rK t sz bytes .gg y H a=(kQ sz H y).bind λq=>if q.2=0 then some (.gg,.no)else if q.2*bytes<=140737488355328/\q.2<=9223372036854775807 then some (.fZ a 0 sz 0 q.2,.new (.row t 0 q.1))else none:=by simp only[rK];cases kQ sz H y<;>rfl
@[simp] theorem aw6(t sz bytes:Nat)(z:List D)(k a:IntKind)(n m:Int)(v:Nat):EU t sz bytes z (.val (.int k n)) (.val (.int a m)) v=if 0<=n/\n<=m/\rm m 9223372036854775807/\rm ((bytes:Int)*m) 281474976710656 then some (.fZ v 0 sz 0 n.toNat,.new (.row t 0 (List.replicate m.toNat z).flatten))else none:=rfl
@[simp] theorem awp(n:Int)(k:Nat):rm n k=(n<=(k:Int)):=rfl
@[simp] theorem avF(f:gT):sc f []=some []:=rfl
def S7:D->Option Int
 | .val (.int .i64 n)=>some n
 | _=>none
@[simp] theorem avx(n:Int):S7 (.i n)=some n:=rfl
@[simp] theorem avE(f:gT)(x:X)(r:List X):sc f (x::r)=(S7 (ev f x)).bind λn=>(sc f r).bind λl=>some (n::l):=by
 show(match ev f x,sc f r with | .val (.int .i64 n),some l=>some (n::l)|_,_=>none)=_;unfold S7;split
 .rename_i h1 b;rw[h1,b];rfl
 .rename_i h;split
  .rename_i n a
   cases hl:sc f r with
   | none=>rfl
   | some l=>exact absurd hl (h _ _ a)
  .rfl
def TJ(d:Bool):List Int->Option D
 | [a,b]=>some (.i (if d then max a b else min a b))
 | [a,b,c]=>some (.i (if d then max (max a b) c else min (min a b) c))
 | _=>none
@[simp] theorem mm2(m:Bool)(a b:Int):TJ m [a,b]=some (.i (if m then max a b else min a b)):=rfl
@[simp] theorem aw5(f:gT)(m:Bool)(xs:List X):ET f m xs=(sc f xs).bind (TJ m):=by
 unfold ET
 cases sc f xs with
 | none=>rfl
 | some l=>simp only[Option.bind_some];unfold TJ;split<;>simp_all
@[simp] theorem as5(f:gT)(g:FuncId)(args:List X):kK f (.call g args)=some (g,args.map (ev f)):=rfl
def MZ(args:List D):D->Option (FuncId×List D)
 | .fn (.func k) first cap=>some (k,first++args++cap)
 | _=>none
@[simp] theorem as4(args:List D)(k:FuncId)(first cap:List D):MZ args (.fn (.func k) first cap)=some (k,first++args++cap):=rfl
@[simp] theorem adh(f:gT)(g:X)(args:List X):kK f (.callv g args)=MZ (args.map (ev f)) (ev f g):=by show(match ev f g with | .fn (.func k) first cap=>some (k,first++args.map (ev f)++cap)|_=>none)=_;unfold MZ;split<;>simp_all
def To(z:D)(ok:Bool):Option D->D
 | some d=>if ok then .tup [d,.b true]else d
 | none=>if ok then .tup [z,.b false]else z
@[simp] theorem awP(z:D)(ok:Bool)(d:D):To z ok (some d)=if ok then .tup [d,.b true]else d:=rfl
@[simp] theorem awO(z:D)(ok:Bool):To z ok none=if ok then .tup [z,.b false]else z:=rfl
@[simp] theorem awQ(kk:KK)(z:D)(ok:Bool)(v:Nat)(k:D)(H:U):Cu kk z ok (.gH v) k H=(keyOf k).bind λkv=>(lP H v).bind λp=>if p.1=kk/\p.1.has kv=true then some (To z ok (rr p.2 kv))else none:=by
 unfold Cu
 cases keyOf k with
 | none=>rfl
 | some kv=>
  cases h:lP H v with
  | none=>simp[h]
  | some p=>
   simp only[h,Option.bind_some];split
   .cases rr p.2 kv<;>rfl
   .rfl
@[simp] theorem aw2(kk:KK)(v:Nat)(k x:D)(H:U):AF kk (.gH v) k x H=(keyOf k).bind λkv=>(lP H v).bind λp=>if p.1=kk/\p.1.has kv=true then some (.any,.obj v (.map p.1 (mz p.2 kv x)))else none:=by
 unfold AF
 cases keyOf k with
 | none=>rfl
 | some kv=>cases h:lP H v<;>simp[h]
def mapOf:Option Ob->Option (KK×List (Value×D))
 | some (.map kk es)=>some (kk,es)
 | _=>none
@[simp] theorem aw1(kk:KK)(es:List (Value×D)):mapOf (some (.map kk es))=some (kk,es):=rfl
@[simp] theorem Tw(H:U)(v:Nat):lP H v=mapOf H[v]? := by unfold lP mapOf;split<;>simp_all
@[simp] theorem av6(k:IntKind)(n:Int):sJ (.int k n) = .val (.int k n):=rfl
@[simp] theorem av8(s:ByteArray):sJ (.string s) = .val (.string s):=rfl
@[simp] theorem av5(b:Bool):sJ (.bool b) = .b b:=rfl
@[simp] theorem awb(s:ByteArray):keyOf (.val (.string s))=some (.string s):=rfl
@[simp] theorem av9(b:Bool):keyOf (.b b)=some (.bool b):=rfl
@[simp] theorem awa(k:IntKind)(n:Int):keyOf (.val (.int k n))=some (.int k n):=rfl
@[simp] theorem awu(v:Nat)(H:U):mX .map (.gH v) H=(lP H v).bind λp=>some (.i p.2.length):=by simp only[mX];cases lP H v<;>rfl
@[simp] theorem auu(ls:List mH)(neg:Bool)(x y:D):Bq false ls neg x y=(mI ls [x] [y]).bind λr=>some (.b (if neg then !r else r)):=by simp only[Bq];cases mI ls [x] [y]<;>rfl
@[simp] theorem aut(ls:List mH)(neg:Bool)(x y:List D):Bq true ls neg (.agg x) (.agg y)=(mI ls x y).bind λr=>some (.b (if neg then !r else r)):=by simp only[Bq];cases mI ls x y<;>rfl
@[simp] theorem ata:mI [] [] []=some true:=rfl
@[simp] theorem as9(l:mH)(ls:List mH)(x y:D)(xs c:List D):mI (l::ls) (x::xs) (y::c)=(uO l x y).bind λa=>(mI ls xs c).bind λb=>some (a&&b):=by show(match uO l x y,mI ls xs c with|some a,some b=>some (a&&b)|_,_=>none)=_;cases uO l x y<;>cases mI ls xs c<;>rfl
@[simp] theorem as7(a b:Int):uO .int (.i a) (.i b)=some (decide (a=b)):=by simp[uO,BEq.beq]
@[simp] theorem as6(a b:Bool):uO .bool (.b a) (.b b)=some (a == b):=rfl
@[simp] theorem as8(a b:ByteArray):uO .str (.val (.string a)) (.val (.string b))=some (a.data.toList == b.data.toList):=rfl
attribute [simp] gP kill vo Fa gR jV vE wE uM uL mC O8 lay Al.last rr mz nW KK.has gG
@[simp] theorem aAM(v g sz off n:Nat):nN (.fZ v g sz off n) = [(v,none)]:=rfl
@[simp] theorem aAL(v:Nat):nN (.gH v) = [(v,none)]:=rfl
@[simp] theorem aAO(sz:Nat)(es:List (List D)):nN (.sl sz es) = []:=rfl
@[simp] theorem aAJ:nN .gg = []:=rfl
@[simp] theorem aAP(v:Value):nN (.val v) = []:=rfl
@[simp] theorem aAG(cs:List D):nN (.agg cs) = []:=rfl
@[simp] theorem aAK(cs:List D):nN (.gC cs) = []:=rfl
@[simp] theorem aAN(v g o:Nat):nN (.ptr v g o) = []:=rfl
@[simp] theorem aAI(l:List Int):nN (dI l) = []:=by unfold dI;rfl
def XB(d:D)(P Q:Prop)(_:Tag (PProd.mk P Q)):Prop:=∃x,d = .b x/\(x=true->P)/\(x=false->Q)
def X2(x:Bool)(P Q:Prop)(_:Tag (PProd.mk P Q)):Prop:=(x=true->P)/\(x=false->Q)
@[simp] theorem apZ(P Q:Prop):X2 true P Q .mk=P:=by simp[X2]
@[simp] theorem apW(P Q:Prop):X2 false P Q .mk=Q:=by simp[X2]
@[simp] theorem apX(x:Bool)(P Q:Prop):X2 (!x) P Q .mk=X2 x Q P .mk:=by cases x<;>simp[X2]
@[simp] theorem apY(x y:Bool)(P Q:Prop):X2 (!x || !y) P Q .mk=X2 (x&&y) Q P .mk:=by cases x<;>cases y<;>simp[X2]
theorem X2.d{p:Prop}[Decidable p]{P Q:Prop}(h:p->P)(k:¬p->Q):X2 (decide p) P Q .mk:=⟨λe=>h (of_decide_eq_true e),λe=>k (of_decide_eq_false e)⟩
def X2.a{p q:Prop}[Decidable p][Decidable q]{P Q:Prop}(h:p->q->P)(k:¬(p/\q)->Q):X2 (decide p&&decide q) P Q .mk:=by rw[<-dQ];exact X2.d (λe=>h e.1 e.2) k
def X2.o{p q:Prop}[Decidable p][Decidable q]{P Q:Prop}(h:p\/q->P)(k:¬(p\/q)->Q):X2 (decide p||decide q) P Q .mk:=by rw[<-fM];exact X2.d h k
def X2.z{p:Prop}[Decidable p]{P Q:Prop}(h:¬p)(k:Q):X2 (decide p) P Q .mk:=X2.d (λn=>absurd n h) (λ_=>k)
@[simp] theorem ap1(x:Bool)(a b:D)(P Q:Prop):XB (bif x then a else b) P Q .mk=X2 x (XB a P Q .mk) (XB b P Q .mk) .mk:=by cases x<;>simp
def X2.b{x:Bool}{P Q:Prop}(h:x=true->P)(k:x=false->Q):X2 x P Q .mk:=⟨h,k⟩
def Xg{p q:Prop}(b:q)(a:p:=by first|omega|assumption):p/\q:=⟨a,b⟩
@[simp] theorem ap0(x:Bool)(P Q:Prop):XB (.b x) P Q .mk=X2 x P Q .mk:=by cases x<;>simp[XB,X2]
@[simp high] theorem ap3(P Q:Prop):XB (.b true) P Q .mk=P:=by simp[XB]
@[simp high] theorem ap2(P Q:Prop):XB (.b false) P Q .mk=Q:=by simp[XB]
def XG(g:Option Bool)(P Q:Prop)(_:Tag (PProd.mk P Q)):Prop:=∃x,g=some x/\(x=true->P)/\(x=false->Q)
@[simp] theorem aqj(x:Bool)(P Q:Prop):XG (some x) P Q .mk=X2 x P Q .mk:=by cases x<;>simp[XG,X2]
@[simp high] theorem aqm(P Q:Prop):XG (some true) P Q .mk=P:=by simp[XG]
@[simp high] theorem aql(P Q:Prop):XG (some false) P Q .mk=Q:=by simp[XG]
@[simp] theorem aqk(x w:Bool)(a b:D)(P Q:Prop):XG (gB (bif x then a else b) w) P Q .mk=X2 x (XG (gB a w) P Q .mk) (XG (gB b w) P Q .mk) .mk:=by cases x<;>simp
def kp(s:St)(dst:Option Nat)(K:St->Prop):D×Dl->Prop:=λp=>K { s with env:=put s.env dst p.1,H:=p.2.app s.H (Al.last s.H) }
def kt(s:St)(dst:Option Nat)(R:List Fp)(Q:Rc->St->Prop):D×Dl->Prop:=λp=>Q ⟨R,jV s.H.length p.2⟩ { s with env:=put s.env dst p.1,H:=p.2.app s.H (Al.last s.H) }
section
variable(T:iD)
def gx(f:FuncId)(args:List D)(dst:Option Nat)(s:St)(K:St->Prop)(_:Tag (dst,s,K)):Prop:=
 (∃fn,T.fn f=some fn/\fn.full=false/\Wf T f (args.map (gq (λ_=>none) s.H 40)) [] λd Hn=>oA (after s dst args d Hn) K .mk) \/
 (∃fn,T.fn f=some fn/\fn.full=true/\Wf T f args s.H λd H'=>K { s with env:=put s.env dst d,H:=H' })
def jh(f:FuncId)(args:List D)(R:List Fp)(dst:Option Nat)(s:St)(Q:Rc->St->Prop)(_:Tag (dst,s,Q)):Prop:=
 ∃fn d,T.fn f=some fn/\fn.full=false/\Wf T f (args.map (gq (λ_=>none) s.H 40)) [] (λd' Hn=>d'=d/\Hn = [])/\(if gG args then closed d else flat d)=true/\Q ⟨R,[]⟩ { s with env:=put s.env dst d }
def wZ(f:FuncId)(args:List D)(R:List Fp)(dst:Option Nat)(s:St)(Q:Rc->St->Prop)(t:Tag (dst,s,Q)):Prop:=
 jh T f args R dst s Q t\/∃fn d ob,T.fn f=some fn/\fn.full=false/\Wf T f (args.map (gq (λ_=>none) s.H 40)) [] (λd' Hn=>d'=d/\Hn = [ob]) /\
  (if gG args then mY d&&oy ob else o3 d&&pO ob)=true/\Q ⟨R,[(s.H.length,none)]⟩ { s with env:=put s.env dst (kH s.H.length d),H:=s.H ++ [ob] }
def uK(f:FuncId)(args:List D)(R:List Fp)(dst:Option Nat)(s:St)(Q:Rc->St->Prop)(t:Tag (dst,s,Q)):Prop:=
 wZ T f args R dst s Q t\/∃fn d v,T.fn f=some fn/\fn.full=false/\(∀u∈(args.map (iF s.H 40)).flatten,u=v)/\v∈(args.map (iF s.H 40)).flatten/\(rowsOf s.H v).isSome=true /\
  gG (args.map (gq (λ_=>none) s.H 40))=true/\Wf T f (args.map (gq (λ_=>none) s.H 40)) [] (λd' Hn=>d'=d/\Hn = [])/\closed d=true/\Q ⟨R,[(v,none)]⟩ { s with env:=put s.env dst d,H:=s.H.set v .dead }
def CO(v rf:Nat)(dst:Option Nat)(s:St)(K:St->Prop):iU:=λo=>∃a,o.st.H[v]? = some (.im rf a .busy)/\K { s with env:=put s.env dst (.b !o.stop),H:=o.st.H.set v (.im rf a o.AW) }
def qx(v:Nat)(args:List D)(dst:Option Nat)(s:St)(K:St->Prop)(_:Tag (dst,s,K)):Prop:=
 ∃rf env0 Rd,s.H[v]? = some (.im rf env0 .ready)/\T.round rf=some Rd/\args.length=Rd.params.length /\
  Wc T Rd.a { env:=uC Rd.params args env0,H:=s.H,ic:=true } λo=>∃s1 a,o = .norm s1/\s1.H[v]? = some (.im rf a .ready)/\Wc T Rd.b { s1 with H:=s1.H.set v (.im rf a .busy) } (CO v rf dst s K)
def wY(d:D)(args:List D)(dst:Option Nat)(s:St)(K:St->Prop)(t:Tag (dst,s,K)):Prop:=
 match d with
 | .ja v=>qx T v args dst s K t
 | d=>oA (MZ args d) (λp=>gx T p.1 p.2 dst s K t) .mk
def uJ(x:D)(dst:Option Nat)(s:St)(K:St->Prop)(_:Tag (dst,s,K)):Prop:=
 ∃v m since seen kk es,x = .ptr v 0 0/\s.H[v]? = some (.jj (.gH m) since seen)/\s.H[m]? = some (.map kk es)/\es.length=since /\
  ((∀i,i<es.length->i∈seen)->K { s with env:=put s.env dst (.tup [.b false]) }) /\
  (∀i k d,es[i]? = some (k,d)->i ∉ seen->K { s with env:=put s.env dst (.tup [.b true,sJ k,d]),H:=s.H.set v (.jj (.gH m) since (seen ++ [i])) })
def iX(op:iR)(dst:Option Nat)(s:St)(K:St->Prop):Prop:=
 match op with
 | .call f args=>gx T f (args.map (ev s.env.get)) dst s K .mk
 | .callN f args=>gx T f (args.map (ev s.env.get)) dst s K .mk
 | .callv f args=>wY T (ev s.env.get f) (args.map (ev s.env.get)) dst s K .mk
 | .nilS a b=>oA (mC s.env.get s.H s.H.length (.nilS a b)) (kp s dst K) .mk
 | .capE a=>oA (mC s.env.get s.H s.H.length (.capE a)) (kp s dst K) .mk
 | .appZ a b c d e f=>oA (mC s.env.get s.H s.H.length (.appZ a b c d e f)) (kp s dst K) .mk
 | .clr a b c=>oA (mC s.env.get s.H s.H.length (.clr a b c)) (kp s dst K) .mk
 | .rangeS a=>oA (mC s.env.get s.H s.H.length (.rangeS a)) (kp s dst K) .mk
 | .nextS a=>oA (mC s.env.get s.H s.H.length (.nextS a)) (kp s dst K) .mk
 | .rangeM a=>oA (mC s.env.get s.H s.H.length (.rangeM a)) (kp s dst K) .mk
 | .entry a=>oA (mC s.env.get s.H s.H.length (.entry a)) (kp s dst K) .mk
 | .mapEnt a b c d=>oA (mC s.env.get s.H s.H.length (.mapEnt a b c d)) (kp s dst K) .mk
 | .entSt a b c=>oA (mC s.env.get s.H s.H.length (.entSt a b c)) (kp s dst K) .mk
 | .nextM a=>uJ (ev s.env.get a) dst s K .mk
 | op=>oA (gP s.env.get s.H s.H.length op) (kp s dst K) .mk
def jS(op:iR)(dst:Option Nat)(s:St)(Q:Rc->St->Prop):Prop:=
 match op with
 | .call f args=>jh T f (args.map (ev s.env.get)) (gR s.env.get s.H (.call f args)) dst s Q .mk
 | .callN f args=>uK T f (args.map (ev s.env.get)) (gR s.env.get s.H (.callN f args)) dst s Q .mk
 | .callv f args=>oA (kK s.env.get (.callv f args)) (λp=>jh T p.1 p.2 (gR s.env.get s.H (.callv f args)) dst s Q .mk) .mk
 | op=>oA (gP s.env.get s.H s.H.length op) (kt s dst (gR s.env.get s.H op) Q) .mk
def XO:List ia->St->(St->Prop)->Prop
 | [],s,K=>K s
 | e::r,s,K=>XG (guardOf s.env.get e.guard) (iX T e.op e.dst s λs'=>XO r s' K) (XO r { s with env:=put s.env e.dst (.val undef) } K) .mk
def XT:List ia->St->(List Rc->St->Prop)->Prop
 | [],s,K=>K [] s
 | e::r,s,K=>XG (guardOf s.env.get e.guard) (jS T e.op e.dst s λrc s'=>XT r s' λrs a=>K (rc::rs) a) (XT r { s with env:=put s.env e.dst (.val undef) } λrs a=>K (⟨[],[]⟩::rs) a) .mk
end
section
variable{T:iD}
theorem TO{α:Type}{x:Option α}{P Q:α->Prop}{t:Tag P}{u:Tag Q}(h:oA x P t)(hi:∀a,P a->Q a):oA x Q u:=by obtain⟨a,h1,b⟩:=h;exact⟨a,h1,hi a b⟩
theorem gx.mono{f:FuncId}{args:List D}{dst:Option Nat}{s:St}{K c:St->Prop}{t:Tag (dst,s,K)}{u:Tag (dst,s,c)}(h:gx T f args dst s K t)(hi:∀s,K s->c s):gx T f args dst s c u:=by
 rcases h with⟨fn,b,a,h⟩|⟨fn,b,a,h⟩
 .exact .inl ⟨fn,b,a,Wf.mono h λd Hn h=>TO h hi⟩
 .exact .inr ⟨fn,b,a,Wf.mono h λd H h=>hi _ h⟩
theorem qx.mono{v:Nat}{args:List D}{dst:Option Nat}{s:St}{K a:St->Prop}{t:Tag (dst,s,K)}{u:Tag (dst,s,a)}(h:qx T v args dst s K t)(hi:∀s,K s->a s):qx T v args dst s a u:=by obtain⟨rf,env0,Rd,d,f,hl,h⟩:=h;exact⟨rf,env0,Rd,d,f,hl,h.mono λo ⟨s1,b,e,h1,j⟩=>⟨s1,b,e,h1,j.mono λo ⟨c,i,g⟩=>⟨c,i,hi _ g⟩⟩⟩
theorem wY.mono{d:D}{args:List D}{dst:Option Nat}{s:St}{K a:St->Prop}{t:Tag (dst,s,K)}{u:Tag (dst,s,a)}(h:wY T d args dst s K t)(hi:∀s,K s->a s):wY T d args dst s a u:=by
 unfold wY at h ⊢;split at h
 .exact qx.mono h hi
 .exact TO h λp b=>gx.mono b hi
theorem uJ.mono{x:D}{dst:Option Nat}{s:St}{K a:St->Prop}{t:Tag (dst,s,K)}{u:Tag (dst,s,a)}(h:uJ x dst s K t)(hi:∀s,K s->a s):uJ x dst s a u:=by obtain⟨v,m,since,seen,kk,es,h1,g,f,e,c,b⟩:=h;exact⟨v,m,since,seen,kk,es,h1,g,f,e,λh=>hi _ (c h),λi k d l j=>hi _ (b i k d l j)⟩
theorem iX.mono{op:iR}{dst:Option Nat}{s:St}{K a:St->Prop}(h:iX T op dst s K)(hi:∀s,K s->a s):iX T op dst s a:=by
 unfold iX at h ⊢
 split at h<;>first
  | exact gx.mono h hi
  | exact wY.mono h hi
  | exact uJ.mono h hi
  | exact TO h λp b=>hi _ b
theorem XO.mono:∀ {l:List ia} {s:St} {K a:St->Prop},XO T l s K->(∀s,K s->a s)->XO T l s a
 | [],s,K,a,h,hi=>hi s h
 | e::r,s,K,a,h,hi=>by obtain⟨x,hg,b,c⟩:=h;exact⟨x,hg,λe=>iX.mono (b e) λs' h=>XO.mono h hi,λe=>XO.mono (c e) hi⟩
theorem gx.wo{f:FuncId}{args:List D}{s:St}{K:St->Prop}{e:ia}{r:List ia}(hg:guardOf s.env.get e.guard=some true)(k:kK s.env.get e.op=some (f,args))(h:gx T f args e.dst s (λs'=>Wo T r s' K) .mk):Wo T (e::r) s K:=by
 rcases h with⟨fn,i,g,h⟩|⟨fn,i,g,h⟩
 .refine Ev.Gs hg k i g h (λd Hn b=>?_) λd Hn s' b j=>?_
  .obtain⟨d',H',a,s',hs,c⟩:=b;cases a;rw[hs];rfl
  .obtain⟨d',H',a,l,hs,c⟩:=b;cases a;rw[hs]at j;cases j;exact c
 .exact Ev.Gr hg k i g h λd H' b=>by obtain⟨d',H2,a,c⟩:=b;cases a;exact c
theorem XO.xQ{l2:List ia}{K:St->Prop}:∀ {l:List ia} {s:St},XO T l s (λs'=>Wo T l2 s' K)->Wo T (l++l2) s K
 | [],s,h=>h
 | e::r,s,h=>by
  obtain⟨x,hg,E,q⟩:=h
  cases x with
  | false=>exact Wo.off hg (XO.xQ (q rfl))
  | true=>
   have h:=E rfl;have plain:oA (gP s.env.get s.H s.H.length e.op) (kp s e.dst λs'=>XO T r s' λs'=>Wo T l2 s' K) .mk->Wo T (e::r++l2) s K:=λ⟨⟨d,δ⟩,y,w⟩=>Wo.op hg y (XO.xQ w);have sp:oA (mC s.env.get s.H s.H.length e.op) (kp s e.dst λs'=>XO T r s' λs'=>Wo T l2 s' K) .mk->Wo T (e::r++l2) s K:=λ⟨⟨d,δ⟩,y,w⟩=>Wo.C1 hg y (XO.xQ w)
   have call:∀f args,kK s.env.get e.op=some (f,args)->gx T f args e.dst s (λs'=>XO T r s' λs'=>Wo T l2 s' K) .mk->Wo T (e::r++l2) s K:=λf args F C=>by
    refine gx.wo hg F ?_;rcases C with⟨fn,q,n,h⟩|⟨fn,q,n,h⟩
    .exact .inl ⟨fn,q,n,Wf.mono h λd Hn ⟨s',h1,c⟩=>⟨s',h1,XO.xQ c⟩⟩
    .exact .inr ⟨fn,q,n,Wf.mono h λd Hn h1=>XO.xQ h1⟩
   unfold iX at h;split at h
   case h_1 f args b=>exact call _ _ (by rw[b];rfl) h
   case h_2 f args b=>exact call _ _ (by rw[b];rfl) h
   case h_3 f args b=>
    unfold wY at h;split at h
    .rename_i v D;obtain⟨rf,env0,Rd,A,G,hl,h⟩:=h;have B:yieldOf s.env.get e.op=some (v,args.map (ev s.env.get)):=by rw[b];simp only[yieldOf,D]
     refine Ev.MY hg B A G hl h (λo ⟨o',g,s1,z,t,h1,c⟩=>?_) (Rb:=PO (CO v rf e.dst s λs'=>XO T r s' λs'=>Wo T l2 s' K)) (λs1 z ⟨o',g,M,u,t,h1,c⟩ j=>?_) (λo ⟨o',g,u,h1,c⟩=>?_) λo u ⟨o',g,L,h1,c⟩ j=>?_
     .cases g;subst t;exact⟨rfl,z,h1⟩
     .cases g;cases t;rw[h1]at j;cases j;exact c
     .cases g;exact⟨u,h1⟩
     .cases g;rw[h1]at j;cases j;exact XO.xQ c
    .rename_i N;obtain⟨p,n,h⟩:=h;exact call p.1 p.2 (by rw[b,adh];exact n) h
   case h_14 a b=>
    obtain⟨v,m,since,seen,kk,es,h1,c,j,J,I,H⟩:=h;exact Ev.next hg b h1 c j J (λk=>XO.xQ (I k)) λi k d g t=>XO.xQ (H i k d g t)
   case h_15=>exact plain h
   all_goals (rename_i b;exact sp (by rw[b];exact h))
theorem XO.wo{l:List ia}{s:St}{K:St->Prop}(h:XO T l s K):Wo T l s K:=by have:=XO.xQ (l2:=[]) (K:=K) (XO.mono h λs' k=>Wo.nil k);rwa [az]at this
theorem XT.wt:∀ {l:List ia} {s:St} {K:List Rc->St->Prop},XT T l s K->Wt T l s K
 | [],s,K,h=>Wt.nil h
 | e::r,s,K,h=>by
  obtain⟨x,hg,u,g⟩:=h
  cases x with
  | false=>exact Wt.off hg (XT.wt (g rfl))
  | true=>
   have h:=u rfl
   have call:∀f args,kK s.env.get e.op=some (f,args)->jh T f args (gR s.env.get s.H e.op) e.dst s (λrc s'=>XT T r s' λrs o=>K (rc::rs) o) .mk->Wt T (e::r) s K:=λf args y ⟨fn,d,g,b,m,n,c⟩=>
    Ev.Jw hg y g b m (λd' Hn ⟨d2,H2,a,i⟩=>by cases a;exact i) n (XT.wt c) λrs s' ⟨j,o,a,k⟩=>by cases a;exact⟨_,_,rfl,k⟩
   unfold jS at h;split at h
   case h_1 f args a=>exact call _ _ (by rw[a];rfl) (by rw[a];exact h)
   case h_2 f args a=>
    rcases h with(h|⟨fn,d,ob,g,b,m,n,c⟩)|⟨fn,d,v,g,b,hS,t,z,n,m,w,c⟩
    .exact call _ _ (by rw[a];rfl) (by rw[a];exact h)
    .exact Ev.Jx hg a rfl g b m (λd' Hn ⟨d2,H2,a,i⟩=>by cases a;exact i) n (XT.wt c) λrs s' ⟨j,o,q,k⟩=>by cases q;rw[a];exact⟨_,_,rfl,k⟩
    .exact Ev.Jy hg a rfl g b hS t z n m (λd' Hn ⟨d2,H2,a,i⟩=>by cases a;exact i) w (XT.wt c) λrs s' ⟨j,o,q,k⟩=>by cases q;rw[a];exact⟨_,_,rfl,k⟩
   case h_3 f args a=>obtain⟨p,b,h⟩:=h;exact call p.1 p.2 (by rw[a];exact b) (by rw[a];exact h)
   case h_4=>obtain⟨⟨d,δ⟩,i,c⟩:=h;exact Wt.op hg i (XT.wt c)
end
def lF:IR->IR
 | .seq a b=>.seq (lF a) (lF b)
 | .cond c a b=>.cond c (lF a) (lF b)
 | .block id live a=>.block id live (lF a)
 | .loop live a=>.loop live (lF a)
 | .fz _ a=>lF a
 | .vM _ a b=>.ops (a++b)
 | c=>c
def uu:IR->Bool
 | .seq a b=>uu a&&uu b
 | .cond _ a b=>uu a&&uu b
 | .block _ _ a=>uu a
 | .loop _ a=>uu a
 | .fz _ _=>false
 | .vM _ _ _=>false
 | _=>true
theorem oL:∀ {c:IR},uu c=true->lF c=c
 | .seq a b,h=>by simp only[uu,Bool.and_eq_true]at h;rw[lF,oL h.1,oL h.2]
 | .cond _ a b,h=>by simp only[uu,Bool.and_eq_true]at h;rw[lF,oL h.1,oL h.2]
 | .block _ _ a,h=>by rw[lF,oL (c:=a) h]
 | .loop _ a,h=>by rw[lF,oL (c:=a) h]
 | .fz _ _,h=>by cases h
 | .vM _ _ _,h=>by cases h
 | .skip,_ | .ops _,_ | .mb _ _,_ | .mR _ _ _,_ | .oq _ _ _,_ | .exit _,_ | .ret,_ | .bad,_=>rfl
def lV(k:Nat):List ia->Bool
 | { dst:=some j,.. }::_=>decide (j=k)
 | _=>false
def iV(k:Nat)(S:List Nat):IR->IR
 | .ops l=>bif lV k l then .fz S (.ops l)else .ops l
 | .mb p l=>bif lV k l then .fz S (.mb p l)else .mb p l
 | .mR p l e=>bif lV k l then .fz S (.mR p l e)else .mR p l e
 | .seq a b=>.seq (iV k S a) (iV k S b)
 | .cond c a b=>.cond c (iV k S a) (iV k S b)
 | .block id live a=>.block id live (iV k S a)
 | .loop live a=>.loop live (iV k S a)
 | .fz d a=>.fz d (iV k S a)
 | c=>c
theorem A2(k:Nat)(S:List Nat):∀c:IR,lF (iV k S c)=lF c
 | .ops l=>by unfold iV;cases lV k l<;>rfl
 | .mb p l=>by unfold iV;cases lV k l<;>rfl
 | .mR p l e=>by unfold iV;cases lV k l<;>rfl
 | .seq a b=>by simp only[iV,lF,A2 k S a,A2 k S b]
 | .cond c a b=>by simp only[iV,lF,A2 k S a,A2 k S b]
 | .block id live a=>by simp only[iV,lF,A2 k S a]
 | .loop live a=>by simp only[iV,lF,A2 k S a]
 | .fz d a=>by simp only[iV,lF,A2 k S a]
 | .skip | .oq _ _ _ | .exit _ | .ret | .bad | .vM _ _ _=>rfl
def nb(k:Nat):List ia->List ia
 | []=>[]
 | e::r=>bif lV k [e]then []else e::nb k r
def ng(k:Nat):List ia->List ia
 | []=>[]
 | e::r=>bif lV k [e]then e::r else ng k r
def nD(k:Nat):List ia->Bool
 | []=>false
 | e::r=>lV k [e]||nD k r
theorem VK(k:Nat):∀l:List ia,nb k l++ng k l=l
 | []=>rfl
 | e::r=>by unfold nb ng;cases lV k [e]<;>simp[VK k r]
def kq(k:Nat)(S:List Nat):IR->IR
 | .ops l=>bif nD k l then .vM S (nb k l) (ng k l)else .ops l
 | .seq a b=>.seq (kq k S a) (kq k S b)
 | .cond c a b=>.cond c (kq k S a) (kq k S b)
 | .block id live a=>.block id live (kq k S a)
 | .loop live a=>.loop live (kq k S a)
 | .fz d a=>.fz d (kq k S a)
 | c=>c
theorem A3(k:Nat)(S:List Nat):∀c:IR,lF (kq k S c)=lF c
 | .ops l=>by unfold kq;cases nD k l<;>simp[lF,VK]
 | .seq a b=>by simp only[kq,lF,A3 k S a,A3 k S b]
 | .cond c a b=>by simp only[kq,lF,A3 k S a,A3 k S b]
 | .block id live a=>by simp only[kq,lF,A3 k S a]
 | .loop live a=>by simp only[kq,lF,A3 k S a]
 | .fz d a=>by simp only[kq,lF,A3 k S a]
 | .skip | .oq _ _ _ | .exit _ | .ret | .bad | .vM _ _ _ | .mb _ _ | .mR _ _ _=>rfl
def gp(T:iD)(live:List Nat)(a:IR)(s:St)(K:iU)(_:Tag (live,a,s,K)):Prop:=Wc T (.loop live (lF a)) s K
def tC(T:iD)(rf:Nat)(live:List Nat)(x:X)(s:St)(K:iU)(_:Tag (live,x,s,K)):Prop:=Wc T (.oq rf live x) s K
@[irreducible] def xF(m S:List Nat):Bool:=m.all λv => !S.contains v
theorem II(m S:List Nat):xF m S=m.all λv => !S.contains v:=by unfold xF;rfl
@[simp] theorem ain(S:List Nat):xF [] S=true:=by rw[II];rfl
@[simp] theorem aw0(v:Nat)(m S:List Nat):xF (v::m) S=(!decide (v∈S)&&xF m S):=by rw[II,II,List.all_cons,dm]
def Qh:D->List Nat
 | .agg cs=>(cs.map (jk 0)).flatten
 | _=>[]
@[simp] theorem ar5(cs:List D):Qh (.agg cs)=(cs.map (jk 0)).flatten:=rfl
def qc(env:Env):List Nat->List Nat
 | []=>[]
 | v::r=>if v<1000 then v::qc env r else if v<2000 then jk 0 (env.get (v-1000))++qc env r else Qh (env.get (v-2000))++qc env r
@[simp] theorem au3(env:Env):qc env [] = []:=rfl
@[simp] theorem au2(env:Env)(v:Nat)(r:List Nat):qc env (v::r)=if v<1000 then v::qc env r else if v<2000 then jk 0 (env.get (v-1000))++qc env r else Qh (env.get (v-2000))++qc env r:=rfl
def XC(T:iD):IR->St->iU->Prop
 | .skip,s,K=>K (.norm s)
 | .ops l,s,K=>XO T l s λs'=>K (.norm s')
 | .mb jH l,s,K=>XT T l s λrs s'=>wE jH rs=true/\K (.norm s')
 | .mR jH l es,s,K=>XT T l s λrs s'=>wE jH rs=true/\XO T es s' λs'=>K (.norm s')
 | .seq a b,s,K=>XC T a s λo=>match o with
  | .norm s'=>XC T b s' K
  | o=>K o
 | .cond c a b,s,K=>XB (ev s.env.get c) (XC T a s K) (XC T b s K) .mk
 | .block id live a,s,K=>XC T a s λo=>K (lS id s.H.length live o)
 | .loop live a,s,K=>gp T live a s K .mk
 | .oq rf live x,s,K=>tC T rf live x s K .mk
 | .exit id,s,K=>K (.exit id s)
 | .ret,s,K=>K (.ret s)
 | .bad,_,_=>False
 | .fz S a,s,K=>xF s.marks (qc s.env S)=true/\XC T a (me (qc s.env S) s) K
 | .vM S a b,s,K=>XO T a s λs'=>xF s'.marks (qc s'.env S)=true/\XO T b (me (qc s'.env S) s') λs'=>K (.norm s')
def Pc(T:iD)(b:IR)(K:iU):iU:=λo=>match o with
 | .norm s'=>XC T b s' K
 | o=>K o
def vC(id n:Nat)(live:List Nat)(K:iU):iU:=λo=>K (lS id n live o)
section
variable{T:iD}
theorem Wc.me{c:IR}{s:St}{K:iU}(S:List Nat)(a:xF s.marks S=true)(h:Wc T c (me S s) K):Wc T c s K:=Ev.G4 S (by rwa [II]at a) h
theorem XC.wc:∀ {c:IR} {s:St} {K:iU},XC T c s K->Wc T (lF c) s K
 | .skip,s,K,h=>Wc.skip h
 | .ops l,s,K,h=>Wc.ops (XO.wo h)
 | .mb jH l,s,K,h=>Wc.mb (XT.wt h)
 | .mR jH l es,s,K,h=>Wc.mR (Ev.mono (XT.wt h) λ_ ⟨rs,s',q,k⟩=>⟨rs,s',q,k.1,XO.wo k.2⟩)
 | .seq a b,s,K,h=>Wc.seq ((XC.wc (c:=a) h).mono λo d=>by
  cases o with
  | norm s'=>exact XC.wc (c:=b) d
  | exit=>exact d
  | ret=>exact d)
 | .cond _ _ _,_,_,h=>by obtain⟨x,f,g,i⟩:=h;exact Wc.cond x f (λe=>XC.wc (g e)) λe=>XC.wc (i e)
 | .block _ _ _,_,_,h=>Wc.block (XC.wc h)
 | .loop live a,s,K,h=>h
 | .oq rf live x,s,K,h=>h
 | .exit id,s,K,h=>Wc.exit h
 | .ret,s,K,h=>Wc.ret h
 | .bad,s,K,h=>h.elim
 | .fz S a,s,K,h=>Wc.me (qc s.env S) h.1 (XC.wc (c:=a) h.2)
 | .vM S a b,s,K,h=>Wc.ops (XO.xQ (XO.mono h λs' k=>Ev.me (qc s'.env S) (by have:=k.1;rwa [II]at this) (XO.wo k.2)))
def vm(ds:List D):D:=match ds with
 | [d]=>d
 | ds=>.tup ds
@[simp] theorem ayX(d:D):vm [d]=d:=rfl
@[simp] theorem ayY(d e:D):vm [d,e] = .tup [d,e]:=rfl
@[simp] theorem ayZ(d e f:D):vm [d,e,f] = .tup [d,e,f]:=rfl
@[simp] theorem ayW:vm [] = .tup []:=rfl
def zR(rs:List vA)(own n:Nat)(K:D->U->Prop):iU:=λo=>match o with
 | .norm s | .ret s=>oA (kill s.marks s.H) (λH=>oA (vo { s with H:=H } rs) (λds=>K (leave own n H (vm ds)).1 (leave own n H (vm ds)).2) .mk) .mk
 | .exit _ _=>False
theorem Wf.xz(own:Nat){f:FuncId}{args:List D}{H:U}{fn:jo}{K:D->U->Prop}(c:IR)(g:T.fn f=some fn)(hl:args.length<=fn.ntmps)(i:lF c=fn.body)
  (h:XC T c { env:=uo args,H:=H } (zR fn.results own H.length K)):Wf T f args H K:=by
 have key:∀s:St,(oA (kill s.marks s.H) (λH'=>oA (vo { s with H:=H' } fn.results) (λds=>K (leave own H.length H' (vm ds)).1 (leave own H.length H' (vm ds)).2) .mk) .mk)->∃d H',(match kill s.marks s.H with
  | some H1=>match results fn { s with H:=H1 }with
   | some d=>some (leave own H.length H1 d)
   | none=>none
  | none=>none)=some (d,H')/\K d H':=by
  rintro s ⟨H1,h1,ds,j,e⟩;rw[h1];refine⟨_,_,?_,e⟩;unfold AL.results;dsimp only;rw[j]
  cases ds with
  | nil=>rfl
  | cons a l=>cases l<;>rfl
 refine Wf.call own g hl (i▸(XC.wc h).mono λo b=>?_)
 cases o with
 | norm s=>exact key s b
 | ret s=>exact key s b
 | exit=>exact b.elim
theorem Wf.xo(own:Nat){f:FuncId}{args:List D}{H:U}{fn:jo}{K:D->U->Prop}(b:T.fn f=some fn)(hl:args.length<=fn.ntmps)
  (h:XC T fn.body { env:=uo args,H:=H } (zR fn.results own H.length K)) (a:uu fn.body=true:=by rfl):Wf T f args H K:=Wf.xz own fn.body b hl (oL a) h
theorem Wf.x{f:FuncId}{args:List D}{H:U}{fn:jo}{K:D->U->Prop}(b:T.fn f=some fn)(hl:args.length<=fn.ntmps)
  (h:XC T fn.body { env:=uo args,H:=H } (zR fn.results fn.own H.length K)) (a:uu fn.body=true:=by rfl):Wf T f args H K:=Wf.xo fn.own b hl h a
theorem gx.is{f:FuncId}{args:List D}{dst:Option Nat}{s:St}{K:St->Prop}{fn:jo}{K0:D->U->Prop}(b:T.fn f=some fn)(a:fn.full=false)(h:Wf T f (args.map (gq (λ_=>none) s.H 40)) [] K0)
  (k:∀d Hn,K0 d Hn->oA (after s dst args d Hn) K .mk):gx T f args dst s K .mk:=.inl ⟨fn,b,a,Wf.mono h k⟩
theorem gx.kG{f:FuncId}{args:List D}{dst:Option Nat}{s:St}{K:St->Prop}{fn:jo}{K0:D->U->Prop}(b:T.fn f=some fn)(a:fn.full=true)(h:Wf T f args s.H K0)
  (k:∀d H',K0 d H'->K { s with env:=put s.env dst d,H:=H' }):gx T f args dst s K .mk:=.inr ⟨fn,b,a,Wf.mono h k⟩
theorem gx.c{f:FuncId}{args:List D}{dst:Option Nat}{s:St}{K:St->Prop}{fn:jo}{x:D}(e:T.fn f=some fn)(c:fn.full=false)(h:Wf T f args [] λd H'=>d=x/\H' = [])
  (a:gG args=true) (b:closed x=true) (k:K { s with env:=put s.env dst x }):gx T f args dst s K .mk:=by
 refine gx.is e c (K0:=λd H'=>d=x/\H' = []) ?_ ?_
 .have i:args.map (gq (λ_=>none) s.H 40)=args:=by
   conv=>rhs;rw[<-aY args]
   exact aq λd g=>p6 (lT a d g)
  rw[i];exact h
 .rintro d Hn ⟨rfl,rfl⟩;obtain⟨k1,k2⟩:=Gx (H:=s.H) b;refine⟨{ s with env:=put s.env dst d },?_,k⟩;unfold after;rw[if_pos a,k1,k2];simp
theorem gx.r{f:FuncId}{args oN:List D}{dst:Option Nat}{s:St}{K:St->Prop}{fn:jo}{x:D}(e:T.fn f=some fn)(c:fn.full=false)(h:Wf T f oN [] λd H'=>d=x/\H' = [])
  (hs:args.map (gq (λ_=>none) s.H 40)=oN) (b:flat x=true) (a:closed x=true) (k:K { s with env:=put s.env dst x }):gx T f args dst s K .mk:=by
 refine gx.is e c (K0:=λd H'=>d=x/\H' = []) (by rw[hs];exact h) ?_;rintro d Hn ⟨rfl,rfl⟩;obtain⟨k1,k2⟩:=Gx (H:=s.H) a;refine⟨{ s with env:=put s.env dst d },?_,k⟩;have:o3 d=true:=(Rf (H:=s.H) b).1;unfold after;rw[this,k1,k2];simp
theorem jh.c{f:FuncId}{args:List D}{R:List Fp}{dst:Option Nat}{s:St}{Q:Rc->St->Prop}{fn:jo}{x:D}(e:T.fn f=some fn)(c:fn.full=false)(h:Wf T f args [] λd H'=>d=x/\H' = [])
  (a:gG args=true) (b:closed x=true) (k:Q ⟨R,[]⟩ { s with env:=put s.env dst x }):jh T f args R dst s Q .mk:=by
 refine⟨fn,x,e,c,?_,by rw[if_pos a];exact b,k⟩
 have i:args.map (gq (λ_=>none) s.H 40)=args:=by
  conv=>rhs;rw[<-aY args]
  exact aq λd g=>p6 (lT a d g)
 rw[i];exact h
theorem jh.r{f:FuncId}{args oN:List D}{R:List Fp}{dst:Option Nat}{s:St}{Q:Rc->St->Prop}{fn:jo}{x:D}(b:T.fn f=some fn)(a:fn.full=false)(h:Wf T f oN [] λd H'=>d=x/\H' = [])
  (hs:args.map (gq (λ_=>none) s.H 40)=oN) (e:flat x=true) (c:closed x=true) (k:Q ⟨R,[]⟩ { s with env:=put s.env dst x }):jh T f args R dst s Q .mk:=
 ⟨fn,x,b,a,by rw[hs];exact h,by split<;>assumption,k⟩
variable{s:St}{K:iU}{a b:IR}{l:List ia}{op:iR}{k j:Nat}
@[simp ↓] theorem aqg:XC T .skip s K=K (.norm s):=(rfl)
@[simp ↓] theorem aqc:XC T (.ops l) s K=XO T l s λs'=>K (.norm s'):=(rfl)
@[simp ↓] theorem ap6{a:List (Nat×Nat)}:XC T (.mb a l) s K=XT T l s λrs s'=>wE a rs=true/\K (.norm s'):=(rfl)
@[simp ↓] theorem ap7{a:List (Nat×Nat)}{es:List ia}:XC T (.mR a l es) s K=XT T l s λrs s'=>wE a rs=true/\XO T es s' λs'=>K (.norm s'):=(rfl)
@[simp ↓] theorem aqf:XC T (.seq a b) s K=XC T a s (Pc T b K):=(rfl)
@[simp ↓] theorem ap5{c:X}:XC T (.cond c a b) s K=XB (ev s.env.get c) (XC T a s K) (XC T b s K) .mk:=(rfl)
@[simp ↓] theorem ap4{id:Nat}{live:List Nat}:XC T (.block id live a) s K=XC T a s (vC id s.H.length live K):=(rfl)
@[simp ↓] theorem aqb{live:List Nat}:XC T (.loop live a) s K=gp T live a s K .mk:=(rfl)
@[simp ↓] theorem aqd{rf:Nat}{live:List Nat}{x:X}:XC T (.oq rf live x) s K=tC T rf live x s K .mk:=(rfl)
@[simp ↓] theorem ap9{S:List Nat}:XC T (.fz S a) s K=(xF s.marks (qc s.env S)=true/\XC T a (me (qc s.env S) s) K):=(rfl)
@[simp ↓] theorem aqa{S:List Nat}{x y:List ia}:XC T (.vM S x y) s K=XO T x s λs'=>xF s'.marks (qc s'.env S)=true/\XO T y (me (qc s'.env S) s') λs'=>K (.norm s'):=(rfl)
@[simp ↓] theorem ap8{id:Nat}:XC T (.exit id) s K=K (.exit id s):=(rfl)
@[simp ↓] theorem aqe:XC T .ret s K=K (.ret s):=(rfl)
@[simp ↓] theorem axi:Pc T b K (.norm s)=XC T b s K:=(rfl)
@[simp ↓] theorem axh{id:Nat}:Pc T b K (.exit id s)=K (.exit id s):=(rfl)
@[simp ↓] theorem axj:Pc T b K (.ret s)=K (.ret s):=(rfl)
@[simp ↓] theorem Qn{id n:Nat}{live:List Nat}:vC id n live K (.norm s)=K (.norm (cut n live s)):=(rfl)
@[simp ↓] theorem asQ{id n:Nat}{live:List Nat}:vC id n live K (.ret s)=K (.ret s):=(rfl)
@[simp ↓] theorem Qo{id n:Nat}{live:List Nat}:vC id n live K (.exit id s)=K (.norm (cut n live s)):=by simp[vC,lS]
@[simp ↓] theorem asP{id a n:Nat}{live:List Nat}(h:a≠id):vC id n live K (.exit a s)=K (.exit a s):=by simp[vC,lS,h]
@[simp ↓] theorem auJ{rs:List vA}{own n:Nat}{K:D->U->Prop}:zR rs own n K (.ret s)=oA (kill s.marks s.H) (λH=>oA (vo { s with H:=H } rs) (λds=>K (leave own n H (vm ds)).1 (leave own n H (vm ds)).2) .mk) .mk:=(rfl)
@[simp ↓] theorem auI{rs:List vA}{own n:Nat}{K:D->U->Prop}:zR rs own n K (.norm s)=oA (kill s.marks s.H) (λH=>oA (vo { s with H:=H } rs) (λds=>K (leave own n H (vm ds)).1 (leave own n H (vm ds)).2) .mk) .mk:=(rfl)
@[simp ↓] theorem aqn{K:St->Prop}:XO T [] s K=K s:=(rfl)
@[simp ↓] theorem aqo{K:St->Prop}:XO T (o k op::l) s K=iX T op (some k) s λs'=>XO T l s' K:=by simp[XO,guardOf]
@[simp ↓] theorem aqq{K:St->Prop}:XO T (u op::l) s K=iX T op none s λs'=>XO T l s' K:=by simp[XO,guardOf]
@[simp ↓] theorem aqp{g:Bool}{K:St->Prop}:XO T (og j g k op::l) s K=XG (guardOf s.env.get (some (j,g))) (iX T op (some k) s λs'=>XO T l s' K) (XO T l { s with env:=(k,.val undef)::s.env } K) .mk:=(rfl)
@[simp ↓] theorem aqr{g:Bool}{K:St->Prop}:XO T (ug j g op::l) s K=XG (guardOf s.env.get (some (j,g))) (iX T op none s λs'=>XO T l s' K) (XO T l s K) .mk:=(rfl)
@[simp ↓] theorem ari{Q:List Rc->St->Prop}:XT T [] s Q=Q [] s:=(rfl)
@[simp ↓] theorem arj{Q:List Rc->St->Prop}:XT T (o k op::l) s Q=jS T op (some k) s λrc s'=>XT T l s' λrs a=>Q (rc::rs) a:=by simp[XT,guardOf]
@[simp ↓] theorem arl{Q:List Rc->St->Prop}:XT T (u op::l) s Q=jS T op none s λrc s'=>XT T l s' λrs a=>Q (rc::rs) a:=by simp[XT,guardOf]
@[simp ↓] theorem ark{g:Bool}{Q:List Rc->St->Prop}:XT T (og j g k op::l) s Q=XG (guardOf s.env.get (some (j,g))) (jS T op (some k) s λrc s'=>XT T l s' λrs a=>Q (rc::rs) a) (XT T l { s with env:=(k,.val undef)::s.env } λrs a=>Q (⟨[],[]⟩::rs) a) .mk:=(rfl)
@[simp ↓] theorem arn{g:Bool}{Q:List Rc->St->Prop}:XT T (ug j g op::l) s Q=XG (guardOf s.env.get (some (j,g))) (jS T op none s λrc s'=>XT T l s' λrs a=>Q (rc::rs) a) (XT T l s λrs a=>Q (⟨[],[]⟩::rs) a) .mk:=(rfl)
@[simp ↓] theorem awc{dst:Option Nat}{K:St->Prop}{d:D}{δ:Dl}:kp s dst K (d,δ)=K { s with env:=put s.env dst d,H:=δ.app s.H (Al.last s.H) }:=(rfl)
@[simp ↓] theorem awd{dst:Option Nat}{R:List Fp}{Q:Rc->St->Prop}{d:D}{δ:Dl}:kt s dst R Q (d,δ)=Q ⟨R,jV s.H.length δ⟩ { s with env:=put s.env dst d,H:=δ.app s.H (Al.last s.H) }:=(rfl)
section
variable{dst:Option Nat}{K:St->Prop}{Q:Rc->St->Prop}
@[simp ↓] theorem aq1{x:X}:iX T (.mv x) dst s K=oA (gP s.env.get s.H s.H.length (.mv x)) (kp s dst K) .mk:=(rfl)
@[simp ↓] theorem arT{x:X}:jS T (.mv x) dst s Q=oA (gP s.env.get s.H s.H.length (.mv x)) (kt s dst (gR s.env.get s.H (.mv x)) Q) .mk:=(rfl)
@[simp ↓] theorem aq6{c a b:X}:iX T (.pick c a b) dst s K=oA (gP s.env.get s.H s.H.length (.pick c a b)) (kp s dst K) .mk:=(rfl)
@[simp ↓] theorem arV{c a b:X}:jS T (.pick c a b) dst s Q=oA (gP s.env.get s.H s.H.length (.pick c a b)) (kt s dst (gR s.env.get s.H (.pick c a b)) Q) .mk:=(rfl)
@[simp ↓] theorem aqx{t:TypeId}{x:X}:iX T (.box t x) dst s K=oA (gP s.env.get s.H s.H.length (.box t x)) (kp s dst K) .mk:=(rfl)
@[simp ↓] theorem aru{t:TypeId}{x:X}:jS T (.box t x) dst s Q=oA (gP s.env.get s.H s.H.length (.box t x)) (kt s dst (gR s.env.get s.H (.box t x)) Q) .mk:=(rfl)
@[simp ↓] theorem aqs{t:TypeId}{z:List D}:iX T (.alloc t z) dst s K=oA (gP s.env.get s.H s.H.length (.alloc t z)) (kp s dst K) .mk:=(rfl)
@[simp ↓] theorem aro{t:TypeId}{z:List D}:jS T (.alloc t z) dst s Q=oA (gP s.env.get s.H s.H.length (.alloc t z)) (kt s dst (gR s.env.get s.H (.alloc t z)) Q) .mk:=(rfl)
@[simp ↓] theorem aqy{z:List D}{ps:List (Nat×Nat×X)}:iX T (.build z ps) dst s K=oA (gP s.env.get s.H s.H.length (.build z ps)) (kp s dst K) .mk:=(rfl)
@[simp ↓] theorem arv{z:List D}{ps:List (Nat×Nat×X)}:jS T (.build z ps) dst s Q=oA (gP s.env.get s.H s.H.length (.build z ps)) (kt s dst (gR s.env.get s.H (.build z ps)) Q) .mk:=(rfl)
@[simp ↓] theorem aqz{t sz:Nat}{z:List D}{n:Nat}{ps:List (Nat×X)}:iX T (.buildSl t sz z n ps) dst s K=oA (gP s.env.get s.H s.H.length (.buildSl t sz z n ps)) (kp s dst K) .mk:=(rfl)
@[simp ↓] theorem arw{t sz:Nat}{z:List D}{n:Nat}{ps:List (Nat×X)}:jS T (.buildSl t sz z n ps) dst s Q=oA (gP s.env.get s.H s.H.length (.buildSl t sz z n ps)) (kt s dst (gR s.env.get s.H (.buildSl t sz z n ps)) Q) .mk:=(rfl)
@[simp ↓] theorem aqR{x:X}:iX T (.ld1 x) dst s K=oA (gP s.env.get s.H s.H.length (.ld1 x)) (kp s dst K) .mk:=(rfl)
@[simp ↓] theorem arK{x:X}:jS T (.ld1 x) dst s Q=oA (gP s.env.get s.H s.H.length (.ld1 x)) (kt s dst (gR s.env.get s.H (.ld1 x)) Q) .mk:=(rfl)
@[simp ↓] theorem aqS{n:Nat}{x:X}:iX T (.ldN n x) dst s K=oA (gP s.env.get s.H s.H.length (.ldN n x)) (kp s dst K) .mk:=(rfl)
@[simp ↓] theorem arL{n:Nat}{x:X}:jS T (.ldN n x) dst s Q=oA (gP s.env.get s.H s.H.length (.ldN n x)) (kt s dst (gR s.env.get s.H (.ldN n x)) Q) .mk:=(rfl)
@[simp ↓] theorem ard{a x:X}:iX T (.st1 a x) dst s K=oA (gP s.env.get s.H s.H.length (.st1 a x)) (kp s dst K) .mk:=(rfl)
@[simp ↓] theorem ar0{a x:X}:jS T (.st1 a x) dst s Q=oA (gP s.env.get s.H s.H.length (.st1 a x)) (kt s dst (gR s.env.get s.H (.st1 a x)) Q) .mk:=(rfl)
@[simp ↓] theorem arf{n:Nat}{a x:X}:iX T (.stN n a x) dst s K=oA (gP s.env.get s.H s.H.length (.stN n a x)) (kp s dst K) .mk:=(rfl)
@[simp ↓] theorem ar1{n:Nat}{a x:X}:jS T (.stN n a x) dst s Q=oA (gP s.env.get s.H s.H.length (.stN n a x)) (kt s dst (gR s.env.get s.H (.stN n a x)) Q) .mk:=(rfl)
@[simp ↓] theorem aq5{x:X}:iX T (.nilck x) dst s K=oA (gP s.env.get s.H s.H.length (.nilck x)) (kp s dst K) .mk:=(rfl)
@[simp ↓] theorem arU{x:X}:jS T (.nilck x) dst s Q=oA (gP s.env.get s.H s.H.length (.nilck x)) (kt s dst (gR s.env.get s.H (.nilck x)) Q) .mk:=(rfl)
@[simp ↓] theorem aqv{op:BinOp}{x y:X}:iX T (.arith op x y) dst s K=oA (gP s.env.get s.H s.H.length (.arith op x y)) (kp s dst K) .mk:=(rfl)
@[simp ↓] theorem arq{op:BinOp}{x y:X}:jS T (.arith op x y) dst s Q=oA (gP s.env.get s.H s.H.length (.arith op x y)) (kt s dst (gR s.env.get s.H (.arith op x y)) Q) .mk:=(rfl)
@[simp ↓] theorem aqJ{a:Bool}{ls:List mH}{neg:Bool}{x y:X}:iX T (.eqS a ls neg x y) dst s K=oA (gP s.env.get s.H s.H.length (.eqS a ls neg x y)) (kp s dst K) .mk:=(rfl)
@[simp ↓] theorem arC{a:Bool}{ls:List mH}{neg:Bool}{x y:X}:jS T (.eqS a ls neg x y) dst s Q=oA (gP s.env.get s.H s.H.length (.eqS a ls neg x y)) (kt s dst (gR s.env.get s.H (.eqS a ls neg x y)) Q) .mk:=(rfl)
@[simp ↓] theorem arh{op:UnOp}{x:X}:iX T (.un op x) dst s K=oA (gP s.env.get s.H s.H.length (.un op x)) (kp s dst K) .mk:=(rfl)
@[simp ↓] theorem ar2{op:UnOp}{x:X}:jS T (.un op x) dst s Q=oA (gP s.env.get s.H s.H.length (.un op x)) (kt s dst (gR s.env.get s.H (.un op x)) Q) .mk:=(rfl)
@[simp ↓] theorem aqF{k:IntKind}{x:X}:iX T (.conv k x) dst s K=oA (gP s.env.get s.H s.H.length (.conv k x)) (kp s dst K) .mk:=(rfl)
@[simp ↓] theorem arA{k:IntKind}{x:X}:jS T (.conv k x) dst s Q=oA (gP s.env.get s.H s.H.length (.conv k x)) (kt s dst (gR s.env.get s.H (.conv k x)) Q) .mk:=(rfl)
@[simp ↓] theorem aqw{x:X}:iX T (.b2s x) dst s K=oA (gP s.env.get s.H s.H.length (.b2s x)) (kp s dst K) .mk:=(rfl)
@[simp ↓] theorem art{x:X}:jS T (.b2s x) dst s Q=oA (gP s.env.get s.H s.H.length (.b2s x)) (kt s dst (gR s.env.get s.H (.b2s x)) Q) .mk:=(rfl)
@[simp ↓] theorem aqY{fn:Fn}{first a:List X}:iX T (.mkfn fn first a) dst s K=oA (gP s.env.get s.H s.H.length (.mkfn fn first a)) (kp s dst K) .mk:=(rfl)
@[simp ↓] theorem arQ{fn:Fn}{first a:List X}:jS T (.mkfn fn first a) dst s Q=oA (gP s.env.get s.H s.H.length (.mkfn fn first a)) (kt s dst (gR s.env.get s.H (.mkfn fn first a)) Q) .mk:=(rfl)
@[simp ↓] theorem aqZ{kk:KK}:iX T (.mkmap kk) dst s K=oA (gP s.env.get s.H s.H.length (.mkmap kk)) (kp s dst K) .mk:=(rfl)
@[simp ↓] theorem arR{kk:KK}:jS T (.mkmap kk) dst s Q=oA (gP s.env.get s.H s.H.length (.mkmap kk)) (kt s dst (gR s.env.get s.H (.mkmap kk)) Q) .mk:=(rfl)
@[simp ↓] theorem aq0{t sz bytes:Nat}{z:List D}{l c:X}:iX T (.mksl t sz bytes z l c) dst s K=oA (gP s.env.get s.H s.H.length (.mksl t sz bytes z l c)) (kp s dst K) .mk:=(rfl)
@[simp ↓] theorem arS{t sz bytes:Nat}{z:List D}{l c:X}:jS T (.mksl t sz bytes z l c) dst s Q=oA (gP s.env.get s.H s.H.length (.mksl t sz bytes z l c)) (kt s dst (gR s.env.get s.H (.mksl t sz bytes z l c)) Q) .mk:=(rfl)
@[simp ↓] theorem aq9{sz:Nat}{x:X}{lo hi:Option X}:iX T (.slc sz x lo hi) dst s K=oA (gP s.env.get s.H s.H.length (.slc sz x lo hi)) (kp s dst K) .mk:=(rfl)
@[simp ↓] theorem arW{sz:Nat}{x:X}{lo hi:Option X}:jS T (.slc sz x lo hi) dst s Q=oA (gP s.env.get s.H s.H.length (.slc sz x lo hi)) (kt s dst (gR s.env.get s.H (.slc sz x lo hi)) Q) .mk:=(rfl)
@[simp ↓] theorem ara{sz:Nat}{x:X}{lo:Option X}{hi mx:X}:iX T (.slc3 sz x lo hi mx) dst s K=oA (gP s.env.get s.H s.H.length (.slc3 sz x lo hi mx)) (kp s dst K) .mk:=(rfl)
@[simp ↓] theorem arX{sz:Nat}{x:X}{lo:Option X}{hi mx:X}:jS T (.slc3 sz x lo hi mx) dst s Q=oA (gP s.env.get s.H s.H.length (.slc3 sz x lo hi mx)) (kt s dst (gR s.env.get s.H (.slc3 sz x lo hi mx)) Q) .mk:=(rfl)
@[simp ↓] theorem arb{sz n:Nat}{x:X}{lo hi:Option X}:iX T (.slcArr sz n x lo hi) dst s K=oA (gP s.env.get s.H s.H.length (.slcArr sz n x lo hi)) (kp s dst K) .mk:=(rfl)
@[simp ↓] theorem arY{sz n:Nat}{x:X}{lo hi:Option X}:jS T (.slcArr sz n x lo hi) dst s Q=oA (gP s.env.get s.H s.H.length (.slcArr sz n x lo hi)) (kt s dst (gR s.env.get s.H (.slcArr sz n x lo hi)) Q) .mk:=(rfl)
@[simp ↓] theorem arc{x:X}{lo hi:Option X}:iX T (.slcS x lo hi) dst s K=oA (gP s.env.get s.H s.H.length (.slcS x lo hi)) (kp s dst K) .mk:=(rfl)
@[simp ↓] theorem arZ{x:X}{lo hi:Option X}:jS T (.slcS x lo hi) dst s Q=oA (gP s.env.get s.H s.H.length (.slcS x lo hi)) (kt s dst (gR s.env.get s.H (.slcS x lo hi)) Q) .mk:=(rfl)
@[simp ↓] theorem aqM{off:Nat}{x:X}:iX T (.fieldA off x) dst s K=oA (gP s.env.get s.H s.H.length (.fieldA off x)) (kp s dst K) .mk:=(rfl)
@[simp ↓] theorem arF{off:Nat}{x:X}:jS T (.fieldA off x) dst s Q=oA (gP s.env.get s.H s.H.length (.fieldA off x)) (kt s dst (gR s.env.get s.H (.fieldA off x)) Q) .mk:=(rfl)
@[simp ↓] theorem aqL{off n:Nat}{a:Bool}{x:X}:iX T (.field off n a x) dst s K=oA (gP s.env.get s.H s.H.length (.field off n a x)) (kp s dst K) .mk:=(rfl)
@[simp ↓] theorem arE{off n:Nat}{a:Bool}{x:X}:jS T (.field off n a x) dst s Q=oA (gP s.env.get s.H s.H.length (.field off n a x)) (kt s dst (gR s.env.get s.H (.field off n a x)) Q) .mk:=(rfl)
@[simp ↓] theorem aqO{sz:Nat}{x i:X}:iX T (.idxA sz x i) dst s K=oA (gP s.env.get s.H s.H.length (.idxA sz x i)) (kp s dst K) .mk:=(rfl)
@[simp ↓] theorem arH{sz:Nat}{x i:X}:jS T (.idxA sz x i) dst s Q=oA (gP s.env.get s.H s.H.length (.idxA sz x i)) (kt s dst (gR s.env.get s.H (.idxA sz x i)) Q) .mk:=(rfl)
@[simp ↓] theorem aqP{sz n:Nat}{x i:X}:iX T (.idxArr sz n x i) dst s K=oA (gP s.env.get s.H s.H.length (.idxArr sz n x i)) (kp s dst K) .mk:=(rfl)
@[simp ↓] theorem arI{sz n:Nat}{x i:X}:jS T (.idxArr sz n x i) dst s Q=oA (gP s.env.get s.H s.H.length (.idxArr sz n x i)) (kt s dst (gR s.env.get s.H (.idxArr sz n x i)) Q) .mk:=(rfl)
@[simp ↓] theorem aqN{sz n:Nat}{a:Bool}{x i:X}:iX T (.idx sz n a x i) dst s K=oA (gP s.env.get s.H s.H.length (.idx sz n a x i)) (kp s dst K) .mk:=(rfl)
@[simp ↓] theorem arG{sz n:Nat}{a:Bool}{x i:X}:jS T (.idx sz n a x i) dst s Q=oA (gP s.env.get s.H s.H.length (.idx sz n a x i)) (kt s dst (gR s.env.get s.H (.idx sz n a x i)) Q) .mk:=(rfl)
@[simp ↓] theorem aqQ{x i:X}:iX T (.idxStr x i) dst s K=oA (gP s.env.get s.H s.H.length (.idxStr x i)) (kp s dst K) .mk:=(rfl)
@[simp ↓] theorem arJ{x i:X}:jS T (.idxStr x i) dst s Q=oA (gP s.env.get s.H s.H.length (.idxStr x i)) (kt s dst (gR s.env.get s.H (.idxStr x i)) Q) .mk:=(rfl)
@[simp ↓] theorem aqU{kk:KK}{z:D}{ok:Bool}{m k:X}:iX T (.lookup kk z ok m k) dst s K=oA (gP s.env.get s.H s.H.length (.lookup kk z ok m k)) (kp s dst K) .mk:=(rfl)
@[simp ↓] theorem arN{kk:KK}{z:D}{ok:Bool}{m k:X}:jS T (.lookup kk z ok m k) dst s Q=oA (gP s.env.get s.H s.H.length (.lookup kk z ok m k)) (kt s dst (gR s.env.get s.H (.lookup kk z ok m k)) Q) .mk:=(rfl)
@[simp ↓] theorem aqW{kk:KK}{m k v:X}:iX T (.mapUpd kk m k v) dst s K=oA (gP s.env.get s.H s.H.length (.mapUpd kk m k v)) (kp s dst K) .mk:=(rfl)
@[simp ↓] theorem arO{kk:KK}{m k v:X}:jS T (.mapUpd kk m k v) dst s Q=oA (gP s.env.get s.H s.H.length (.mapUpd kk m k v)) (kt s dst (gR s.env.get s.H (.mapUpd kk m k v)) Q) .mk:=(rfl)
@[simp ↓] theorem aqK{x:X}{i:Nat}:iX T (.ext x i) dst s K=oA (gP s.env.get s.H s.H.length (.ext x i)) (kp s dst K) .mk:=(rfl)
@[simp ↓] theorem arD{x:X}{i:Nat}:jS T (.ext x i) dst s Q=oA (gP s.env.get s.H s.H.length (.ext x i)) (kt s dst (gR s.env.get s.H (.ext x i)) Q) .mk:=(rfl)
@[simp ↓] theorem aqA{f:FuncId}{args:List X}:iX T (.call f args) dst s K=gx T f (args.map (ev s.env.get)) dst s K .mk:=(rfl)
@[simp ↓] theorem arx{f:FuncId}{args:List X}:jS T (.call f args) dst s Q=jh T f (args.map (ev s.env.get)) (gR s.env.get s.H (.call f args)) dst s Q .mk:=(rfl)
@[simp ↓] theorem aqB{f:FuncId}{args:List X}:iX T (.callN f args) dst s K=gx T f (args.map (ev s.env.get)) dst s K .mk:=(rfl)
@[simp ↓] theorem ary{f:FuncId}{args:List X}:jS T (.callN f args) dst s Q=uK T f (args.map (ev s.env.get)) (gR s.env.get s.H (.callN f args)) dst s Q .mk:=(rfl)
@[simp ↓] theorem aqC{f:X}{args:List X}:iX T (.callv f args) dst s K=wY T (ev s.env.get f) (args.map (ev s.env.get)) dst s K .mk:=(rfl)
@[simp] theorem aqh{k:FuncId}{first cap args:List D}:wY T (.fn (.func k) first cap) args dst s K .mk=gx T k (first++args++cap) dst s K .mk:=by show oA (some (k,first++args++cap)) (λp=>gx T p.1 p.2 dst s K .mk) .mk=_;simp only[AJ]
@[simp] theorem aqi{v:Nat}{args:List D}:wY T (.ja v) args dst s K .mk=qx T v args dst s K .mk:=(rfl)
@[simp ↓] theorem arz{f:X}{args:List X}:jS T (.callv f args) dst s Q=oA (kK s.env.get (.callv f args)) (λp=>jh T p.1 p.2 (gR s.env.get s.H (.callv f args)) dst s Q .mk) .mk:=(rfl)
@[simp ↓] theorem aqt{t sz bytes:Nat}{x y:X}:iX T (.app t sz bytes x y) dst s K=oA (gP s.env.get s.H s.H.length (.app t sz bytes x y)) (kp s dst K) .mk:=(rfl)
@[simp ↓] theorem arp{t sz bytes:Nat}{x y:X}:jS T (.app t sz bytes x y) dst s Q=oA (gP s.env.get s.H s.H.length (.app t sz bytes x y)) (kt s dst (gR s.env.get s.H (.app t sz bytes x y)) Q) .mk:=(rfl)
@[simp ↓] theorem aqG{sz:Nat}{x y:X}:iX T (.copy sz x y) dst s K=oA (gP s.env.get s.H s.H.length (.copy sz x y)) (kp s dst K) .mk:=(rfl)
@[simp ↓] theorem arB{sz:Nat}{x y:X}:jS T (.copy sz x y) dst s Q=oA (gP s.env.get s.H s.H.length (.copy sz x y)) (kt s dst (gR s.env.get s.H (.copy sz x y)) Q) .mk:=(rfl)
@[simp ↓] theorem aqT{k:A9}{x:X}:iX T (.len k x) dst s K=oA (gP s.env.get s.H s.H.length (.len k x)) (kp s dst K) .mk:=(rfl)
@[simp ↓] theorem arM{k:A9}{x:X}:jS T (.len k x) dst s Q=oA (gP s.env.get s.H s.H.length (.len k x)) (kt s dst (gR s.env.get s.H (.len k x)) Q) .mk:=(rfl)
@[simp ↓] theorem aqX{a:Bool}{xs:List X}:iX T (.minmax a xs) dst s K=oA (gP s.env.get s.H s.H.length (.minmax a xs)) (kp s dst K) .mk:=(rfl)
@[simp ↓] theorem arP{a:Bool}{xs:List X}:jS T (.minmax a xs) dst s Q=oA (gP s.env.get s.H s.H.length (.minmax a xs)) (kt s dst (gR s.env.get s.H (.minmax a xs)) Q) .mk:=(rfl)
@[simp ↓] theorem aq4{neg:Bool}{x:X}:iX T (.nilS neg x) dst s K=oA (mC s.env.get s.H s.H.length (.nilS neg x)) (kp s dst K) .mk:=(rfl)
@[simp ↓] theorem aqD{x:X}:iX T (.capE x) dst s K=oA (mC s.env.get s.H s.H.length (.capE x)) (kp s dst K) .mk:=(rfl)
@[simp ↓] theorem aqu{t sz bytes:Nat}{z:List D}{x n:X}:iX T (.appZ t sz bytes z x n) dst s K=oA (mC s.env.get s.H s.H.length (.appZ t sz bytes z x n)) (kp s dst K) .mk:=(rfl)
@[simp ↓] theorem aqE{sz:Nat}{z:List D}{x:X}:iX T (.clr sz z x) dst s K=oA (mC s.env.get s.H s.H.length (.clr sz z x)) (kp s dst K) .mk:=(rfl)
@[simp ↓] theorem aq8{x:X}:iX T (.rangeS x) dst s K=oA (mC s.env.get s.H s.H.length (.rangeS x)) (kp s dst K) .mk:=(rfl)
@[simp ↓] theorem aq3{x:X}:iX T (.nextS x) dst s K=oA (mC s.env.get s.H s.H.length (.nextS x)) (kp s dst K) .mk:=(rfl)
@[simp ↓] theorem aq7{x:X}:iX T (.rangeM x) dst s K=oA (mC s.env.get s.H s.H.length (.rangeM x)) (kp s dst K) .mk:=(rfl)
@[simp ↓] theorem aq2{x:X}:iX T (.nextM x) dst s K=uJ (ev s.env.get x) dst s K .mk:=(rfl)
@[simp ↓] theorem aqV{kk:KK}{z:D}{m k:X}:iX T (.mapEnt kk z m k) dst s K=oA (mC s.env.get s.H s.H.length (.mapEnt kk z m k)) (kp s dst K) .mk:=(rfl)
@[simp ↓] theorem aqH{m k x:X}:iX T (.entSt m k x) dst s K=oA (mC s.env.get s.H s.H.length (.entSt m k x)) (kp s dst K) .mk:=(rfl)
@[simp ↓] theorem aqI{x:X}:iX T (.entry x) dst s K=oA (mC s.env.get s.H s.H.length (.entry x)) (kp s dst K) .mk:=(rfl)
end
end
def vg(n:Nat)(live keys:List Nat)(J:Env->U->List Nat->Bool->Prop)(K:iU):iU:=λo=>match o with
 | .norm s=>J (forget keys (cut n live s).env) (cut n live s).H (cut n live s).marks (cut n live s).ic
 | o=>K o
@[simp ↓] theorem Tq{n:Nat}{live keys:List Nat}{J:Env->U->List Nat->Bool->Prop}{K:iU}{s:St}:vg n live keys J K (.norm s)=J (forget keys (cut n live s).env) (cut n live s).H (cut n live s).marks (cut n live s).ic:=(rfl)
@[simp ↓] theorem awR{n:Nat}{live keys:List Nat}{J:Env->U->List Nat->Bool->Prop}{K:iU}{id:Nat}{s:St}:vg n live keys J K (.exit id s)=K (.exit id s):=(rfl)
@[simp ↓] theorem awT{n:Nat}{live keys:List Nat}{J:Env->U->List Nat->Bool->Prop}{K:iU}{s:St}:vg n live keys J K (.ret s)=K (.ret s):=(rfl)
theorem gp.i{T:iD}{live:List Nat}{a:IR}{s:St}{K:iU}{α:Type}(keys:List Nat)(i:(keys.all λk=>live.contains k)=true)(E:α->Env)(f:α->U)(P:α->Prop)(c:α->Nat)(d:α)
  (h0:P d) (n:forget keys s.env=E d) (l:s.H=f d)
  (h:∀x,P x->XC T a { env:=E x,H:=f x,marks:=s.marks,ic:=s.ic } (vg s.H.length live keys (λe H m r=>∃b,e=E b/\H=f b/\m=s.marks/\r=s.ic/\c b<c x/\P b) K)):gp T live a s K .mk:=by
 refine Wc.loop (λm s'=>∃x,P x/\m=c x/\({ s' with env:=forget keys s'.env }:St) = { env:=E x,H:=f x,marks:=s.marks,ic:=s.ic }) (c d) ⟨d,h0,rfl,?_⟩ ?_
 .dsimp only;rw[XI i,n];rw[<-l]
 .rintro m s' ⟨x,hP,rfl,j⟩;refine Ev.G3 keys ?_;rw[j];refine(XC.wc (h x hP)).mono λo g=>?_
  cases o with
  | norm u=>
   obtain⟨b,p,y,w,v,t,h1⟩:=g;refine⟨c b,t,b,h1,rfl,?_⟩;rw[p];generalize cut s.H.length live u=q at *;cases q;simp_all
  | exit=>exact g
  | ret=>exact g
def gp.j{T:iD}{live:List Nat}{a:IR}{s:St}{K:iU}{α:Type}(b:α)(E:α->Env)(d:α->U)(P:α->Prop)(f:α->Nat)
  (h0:P b) (j:forget ((E b).map (·.1)) s.env=E b) (i:s.H=d b) (g:(((E b).map (·.1)).all λk=>live.contains k)=true)
  (h:∀x,P x->XC T a { env:=E x,H:=d x,marks:=s.marks,ic:=s.ic } (vg s.H.length live ((E b).map (·.1)) (λe H m r=>∃c,e=E c/\H=d c/\m=s.marks/\r=s.ic/\f c<f x/\P c) K)):gp T live a s K .mk:=
 gp.i ((E b).map (·.1)) g E d P f b h0 j i h
@[simp] theorem sY{n:Nat}{live:List Nat}{env:Env}{H:U}{m:List Nat}{r:Bool}(h:H.length<=n):cut n live { env:=env,H:=H,marks:=m,ic:=r } = { env:=forget live env,H:=H,marks:=m,ic:=r }:=QK h
def Is(x:D):D->U->Prop:=λd Hn=>d=x/\Hn = []
@[simp] theorem apR(x d:D)(H:U):Is x d H=(d=x/\H = []):=rfl
@[simp] theorem ayw(x:Bool)(a b:D):CM (.b x) a b=some (cond x a b):=by cases x<;>rfl
@[simp] theorem axJ(c:Bool)(a b d e:D)(P:D->Prop):oA (CM (bif c then a else b) d e) P .mk=X2 c (oA (CM a d e) P .mk) (oA (CM b d e) P .mk) .mk:=by cases c<;>simp
@[simp] theorem Z3{n:Nat}{H:U}{d:D}(h:H.length<=n)(own:Nat):leave own n H d=(d,H):=by unfold leave;rw[if_pos (.inl h)]
@[simp] theorem awq{n:Nat}{H:U}{d:D}:leave 4 n H d=(d,H):=by unfold leave;rw[if_pos (.inr rfl)]
section
variable{P:D->Prop}{a b:Int}
@[simp] theorem axr:oA (jU .add .i64 a b) P .mk=(om (a+b)/\P (.i (a+b))):=by simp only[jU,if_true];rw[CH,AJ]
@[simp] theorem axO:oA (jU .sub .i64 a b) P .mk=(om (a-b)/\P (.i (a-b))):=by simp only[jU,if_true];rw[CH,AJ]
@[simp] theorem axI:oA (jU .mul .i64 a b) P .mk=(om (a*b)/\P (.i (a*b))):=by simp only[jU,if_true];rw[CH,AJ]
end
def vi(a b:Int):Int:=IntKind.i64.wrap (a.tdiv b)
def gD(a b:Int):Int:=a.tmod b
def np{n:Int}(h:om n):IntKind.i64.wrap n=n:=by unfold om at h;simp only[IntKind.wrap,IntKind.bits,IntKind.signed];simp;omega
def vj{a b:Int}(h0:0<=a)(h1:a<=9223372036854775807)(c:0<b):vi a b=a / b:=by unfold vi;rw[Int.tdiv_eq_ediv_of_nonneg h0,np];have e:0<=a / b:=Int.ediv_nonneg h0 (by omega);have d:a / b<=a:=Int.ediv_le_self b h0;exact iE
def jB{a b:Int}(h0:0<=a):gD a b=a % b:=Int.tmod_eq_emod_of_nonneg h0
section
variable{P:D->Prop}{a b:Int}{t:Tag P}
@[simp] theorem axK:oA (jU .quo .i64 a b) P t=(b≠0/\P (.i (vi a b))):=by
 cases t;simp only[jU]
 by_cases h:b=0<;>simp[h,vi]
@[simp] theorem axM:oA (jU .rem .i64 a b) P t=(b≠0/\P (.i (gD a b))):=by
 cases t;simp only[jU]
 by_cases h:b=0<;>simp[h,gD]
end
@[simp] theorem avC(n:Int):om n=(-9223372036854775808<=n/\n<=9223372036854775807):=rfl
def gt{α:Type}[Inhabited α](l:List α)(n:Int):α:=l.getD n.toNat default
def gA{α:Type}[Inhabited α]{l:List α}{n:Int}(h0:0<=n)(h:n<l.length):gt l n∈l:=by unfold gt;rw[List.getD_eq_getElem?_getD,List.getElem?_eq_getElem (by omega),aT];exact bV _
def iZ{α:Type}[Inhabited α]{l:List α}{n:Int}(h0:0<=n)(h:n<l.length):gt l n=l[n.toNat]:=by unfold gt;rw[List.getD_eq_getElem?_getD,List.getElem?_eq_getElem (by omega),aT]
def zU{α:Type}[Inhabited α]{l:List α}{n:Nat}(h:n<l.length):gt l n=l[n]:=iZ (by omega) (by omega)
def jn{α:Type}[Inhabited α]{l:List α}{n:Int}(h0:0<=n)(h:n<l.length):l.take (n+1).toNat=l.take n.toNat ++ [gt l n]:=by rw[iZ h0 h,<-List.take_succ_eq_append_getElem (by omega)];congr 1;omega
def n5{α:Type}[Inhabited α]{l:List α}{n:Int}(h0:0<=n)(h:n<l.length):l.drop n.toNat=gt l n::l.drop (n.toNat+1):=by rw[iZ h0 h];exact bA (by omega)
def um{α:Type}[Inhabited α]{l:List α}{x:α}:x∈l↔∃n:Int,0<=n/\n<l.length/\gt l n=x:=by
 constructor
 .intro h;obtain⟨i,hi,e⟩:=List.getElem_of_mem h;exact⟨i,by omega,by omega,by rw[zU hi,e]⟩
 .rintro⟨n,h0,h1,rfl⟩;exact gA h0 h1
def lr{α:Type}{l:List α}{n:Int}(h:(l.length:Int)<=n):l.take n.toNat=l:=af (by omega)
section
variable{α:Type}[Inhabited α]{sz:Nat}{f:α->List D}{P:D->Prop}{k:IntKind}
theorem yV{l:List α}{n:Int}:oA (mG sz (.sl sz (l.map f)) (.val (.int k n))) P .mk=((0<=n/\n<l.length)/\P (.gC (f (gt l n)))):=by
 simp only[mG,List.length_map,true_and,CH,AJ];refine propext ⟨λ⟨h,a⟩=>⟨h,?_⟩,λ⟨h,a⟩=>⟨h,?_⟩⟩
 .rw[List.getD_eq_getElem?_getD,au,List.getElem?_eq_getElem (by omega),aF,aT]at a;unfold gt;rw[List.getD_eq_getElem?_getD,List.getElem?_eq_getElem (by omega),aT];exact a
 .rw[List.getD_eq_getElem?_getD,au,List.getElem?_eq_getElem (by omega),aF,aT];unfold gt at a;rw[List.getD_eq_getElem?_getD,List.getElem?_eq_getElem (by omega),aT]at a;exact a
@[simp] theorem axy{l:List α}{n:Int}:oA (mG sz (.sl sz (l.map f)) (.val (.int k n))) P .mk=((0<=n/\n<l.length)/\P (.gC (f (gt l n)))):=yV
@[simp] theorem axx{l:List Int}{n:Int}:oA (mG 1 (dI l) (.val (.int k n))) P .mk=((0<=n/\n<l.length)/\P (.gC [.i (gt l n)])):=by unfold dI;rw[yV,zO]
@[simp] theorem axD{l:List Pos}{n:Int}:oA (mG 5 (gZ l) (.val (.int k n))) P .mk=((0<=n/\n<l.length)/\P (.gC (gt l n).cells)):=yV
@[simp] theorem axC{l:List gd}{n:Int}:oA (mG 2 (iw l) (.val (.int k n))) P .mk=((0<=n/\n<l.length)/\P (.gC [.i (gt l n).1,.i (gt l n).2])):=by unfold iw;rw[yV,xd]
@[simp] theorem axA{l:List α}{n:Int}:oA (mG sz (dN sz f l) (.val (.int k n))) P .mk=((0<=n/\n<l.length)/\P (.gC (f (gt l n)))):=by
 cases l with
 | nil=>
  simp only[dN,mG,aaE,da];refine propext ⟨λh=>h.elim,λ⟨h,_⟩=>?_⟩;have:=h.1;have:=h.2;simp at this;omega
 | cons a l=>exact yV
end
def Ji(H:U)(k:Nat)(ρ:Nat->Option Nat)(v g sz off n:Nat):Option Nat->D
 | some v'=>.fZ v' g sz off n
 | none=>match rowAt H v g with
  | some (_,cs)=>if (off+n)*sz<=cs.length then .sl sz (chunks sz n ((cs.drop (off*sz)).map (gq ρ H k)))else .any
  | none=>.any
@[simp] theorem Fg(ρ:Nat->Option Nat)(H:U)(k v g sz off n:Nat):gq ρ H (k+1) (.fZ v g sz off n)=Ji H k ρ v g sz off n (ρ v):=by rw[gq,if_neg (by simp[closed])];unfold Ji;rfl
@[simp] theorem abF(H:U)(k:Nat)(ρ:Nat->Option Nat)(v g sz off n v':Nat):Ji H k ρ v g sz off n (some v') = .fZ v' g sz off n:=rfl
def Jj(H:U)(k:Nat)(ρ:Nat->Option Nat)(v g off:Nat):Option Nat->D
 | some v'=>.ptr v' g off
 | none=>match rowAt H v g with
  | some (_,cs)=>.gC ((cs.drop off).map (gq ρ H k))
  | none=>.any
@[simp] theorem aoP(ρ:Nat->Option Nat)(H:U)(k v g off:Nat):gq ρ H (k+1) (.ptr v g off)=Jj H k ρ v g off (ρ v):=by rw[gq,if_neg (by simp[closed])];unfold Jj;rfl
@[simp] theorem aoK(H:U)(k:Nat)(ρ:Nat->Option Nat)(v g off v':Nat):Jj H k ρ v g off (some v') = .ptr v' g off:=rfl
def PF:Option Nat->D
 | some v'=>.gH v'
 | none=>.any
@[simp] theorem aoO(ρ:Nat->Option Nat)(H:U)(k v:Nat):gq ρ H (k+1) (.gH v)=PF (ρ v):=by rw[gq,if_neg (by simp[closed])];unfold PF;rfl
@[simp] theorem aoJ(v:Nat):PF (some v) = .gH v:=rfl
@[simp] theorem azc:PF none = .any:=rfl
@[simp] theorem azm{ρ:Nat->Option Nat}{H:U}{k:Nat}{d:D}(h:closed d=true):gq ρ H k d=d:=p6 h
@[simp] theorem Wd(cs:List D):closed (.agg cs)=gG cs:=by simp only[closed]
@[simp] theorem auf(cs:List D):closed (.tup cs)=gG cs:=by simp only[closed]
@[simp] theorem aub(cs:List D):closed (.gC cs)=gG cs:=by simp only[closed]
@[simp] theorem aug(v:Value):closed (.val v)=true:=by simp only[closed]
@[simp] theorem aua:closed .gg=true:=by simp only[closed]
@[simp] theorem Wg(f:Fn)(a b:List D):closed (.fn f a b)=(gG a&&gG b):=by simp only[closed]
@[simp] theorem aud(v g sz off n:Nat):closed (.fZ v g sz off n)=false:=by simp only[closed]
@[simp] theorem aue(v g o:Nat):closed (.ptr v g o)=false:=by simp only[closed]
@[simp] theorem auh(v:Nat):closed (.ja v)=false:=by simp only[closed]
theorem Cx{ρ:Nat->Option Nat}{H:U}{k:Nat}{cs:List D}(h:gG cs=true):cs.map (gq ρ H k)=cs:=by
 conv=>rhs;rw[<-aY cs]
 exact aq λd a=>p6 (lT h d a)
@[simp] theorem aoM(ρ:Nat->Option Nat)(H:U)(k:Nat)(cs:List D):gq ρ H (k+1) (.agg cs) = .agg (cs.map (gq ρ H k)):=by
 by_cases h:closed (.agg cs)=true
 .rw[p6 h,Cx (by simpa using h)]
 .rw[gq,if_neg h]
@[simp] theorem aoQ(ρ:Nat->Option Nat)(H:U)(k:Nat)(cs:List D):gq ρ H (k+1) (.tup cs) = .tup (cs.map (gq ρ H k)):=by
 by_cases h:closed (.tup cs)=true
 .rw[p6 h,Cx (by simpa using h)]
 .rw[gq,if_neg h]
@[simp] theorem azn(ρ:Nat->Option Nat)(H:U)(k:Nat)(c:Bool)(a b:D):gq ρ H k (bif c then a else b)=bif c then gq ρ H k a else gq ρ H k b:=by cases c<;>rfl
theorem PJ{ρ:Nat->Option Nat}{H:U}{k:Nat}{cs:List D}(h:gG cs=true):cs.map (gq ρ H (k+1))=cs:=by
 conv=>rhs;rw[<-aY cs]
 exact aq λd a=>p6 (lT h d a)
theorem M5{α:Type}{sz:Nat}{f:α->List D}(b:∀a,(f a).length=sz):∀l:List α,chunks sz l.length (l.map f).flatten=l.map f
 | []=>rfl
 | a::l=>by simp only[aC,chunks,List.map_cons,aZ];rw[aW (by rw[b];exact Nat.le_refl _),af (by rw[b];exact Nat.le_refl _),eO (by rw[b];exact Nat.le_refl _),bF (by rw[b];exact Nat.le_refl _),aS,M5 b l]
def ah2{α:Type}{sz:Nat}{f:α->List D}(c:∀a,(f a).length=sz)(l:List α):(l.map f).flatten.length=l.length*sz:=by
 induction l with
 | nil=>simp
 | cons a l b=>simp only[List.map_cons,aZ,aj,c,b,aC,cE];omega
def Nb{a b:List D}:gG (a++b)=(gG a&&gG b):=by
 induction a with
 | nil=>rfl
 | cons d a c=>simp only[bW,gG,c,Bool.and_assoc]
def adF{α:Type}{f:α->List D}(c:∀a,gG (f a)=true)(l:List α):gG (l.map f).flatten=true:=by
 induction l with
 | nil=>rfl
 | cons a l b=>simp only[List.map_cons,aZ,Nb,c,b];rfl
class Fl {α:Type} (f:α->List D) (sz:outParam Nat):Prop where
 len:∀a,(f a).length=sz
 cl:∀a,gG (f a)=true
instance:Fl f1 1:=⟨λ_=>by simp,λ_=>by simp[gG]⟩
instance:Fl fB 1:=⟨λ_=>by simp,λ_=>by simp[gG]⟩
instance:Fl fS 2:=⟨λ_=>by simp,λ_=>by simp[gG]⟩
instance:Fl fP 1:=⟨λ_=>by simp,λ_=>by simp[gG]⟩
instance:Fl fI 1:=⟨λ_=>by simp,λ_=>by simp[gG]⟩
instance:Fl Pos.cells 5:=⟨λ_=>rfl,λ_=>by simp⟩
instance:Fl Kind.cells 3:=⟨λ_=>rfl,λ_=>by simp⟩
instance:Fl Clause.cells 4:=⟨λ_=>rfl,λ_=>by simp⟩
section
variable{α:Type}{f:α->List D}{sz:Nat}
@[simp] theorem adA:cl f [] = []:=by rw[nO];rfl
@[simp] theorem zH(a b:List α):cl f a++cl f b=cl f (a++b):=by simp[nO]
theorem p9(l:List α)(a:α):cl f l++f a=cl f (l ++ [a]):=by simp[nO]
theorem mD(l:List α)(a:α):cl f (a::l)=f a++cl f l:=by simp[nO]
variable [F:Fl f sz]
include F
@[simp] theorem rN(l:List α):(cl f l).length=l.length*sz:=by rw[nO];exact ah2 F.len l
theorem w6:∀(l:List α) (n:Nat),(cl f l).take (n*sz)=cl f (l.take n)
 | [],n=>by simp
 | a::l,0=>by simp
 | a::l,n+1=>by rw[mD,List.take_succ_cons,mD,<-w6 l n,cE,List.take_append,F.len,af (by rw[F.len];omega)];congr 2;omega
theorem uQ:∀(l:List α) (n:Nat),(cl f l).drop (n*sz)=cl f (l.drop n)
 | [],n=>by simp
 | a::l,0=>by simp
 | a::l,n+1=>by rw[mD,List.drop_succ_cons,<-uQ l n,cE,fq,F.len,bF (by rw[F.len];omega),aS];congr 1;omega
@[simp] theorem atN(l:List α):(cl f l).take (l.length*sz)=cl f l:=by rw[w6,dH]
@[simp] theorem tG(l:List α):gG (cl f l)=true:=by rw[nO];exact adF F.cl l
@[simp] theorem atL{ρ:Nat->Option Nat}{H:U}(l:List α):(cl f l).map (gq ρ H 40)=cl f l:=PJ (tG l)
@[simp] theorem yd{k:Nat}(l:List α):closed (.sl k (l.map f))=true:=by simp only[closed];exact DL F.cl l
theorem Wa(l:List α)(n j:Nat)(c:j<sz):(cl f l)[n*sz+j]? = (l[n]?).bind λa=>(f a)[j]? := by
 have h:(cl f l)[n*sz+j]? = ((cl f l).drop (n*sz))[j]? := by rw[aI]
 rw[h,uQ]
 by_cases b:n<l.length
 .rw[bA b,mD,ah (by rw[F.len];exact c),List.getElem?_eq_getElem b];rfl
 .have d:l[n]? = none:=bp (fr b);rw[bF (fr b),d];simp
theorem adB(l:List α)(n:Nat)(a:α)(h:n<l.length):(cl f l).take (n*sz)++f a++(cl f l).drop (n*sz+sz)=cl f (l.take n++a::l.drop (n+1)):=by rw[w6,<-cE,uQ,<-zH,mD,aK]
end
@[simp] theorem atv(l:List Int)(n:Nat):(cl f1 l).take n=cl f1 (l.take n):=by simpa using w6 (f:=f1) l n
@[simp] theorem att(l:List Int)(n:Nat):(cl f1 l).drop n=cl f1 (l.drop n):=by simpa using uQ (f:=f1) l n
@[simp] theorem atu(l:List Int)(n:Int):cl f1 l ++ [.i n]=cl f1 (l ++ [n]):=by rw[<-p9,zO]
@[simp] theorem aty(l:List (List Int))(x:List Int):cl fI l ++ [dI x]=cl fI (l ++ [x]):=by rw[<-p9,afT]
@[simp] theorem atC(l:List (List gd))(x:List gd):cl fP l ++ [iw x]=cl fP (l ++ [x]):=by rw[<-p9,afU]
@[simp] theorem atE(l:List gd)(a b:Int):cl fS l ++ [.i a,.i b]=cl fS (l ++ [(a,b)]):=by rw[<-p9,xd]
@[simp] theorem atD(l:List Pos)(a b c:List Int)(r q:Int):cl Pos.cells l ++ [dI a,dI b,dI c,.i r,.i q]=cl Pos.cells (l ++ [⟨a,b,c,r,q⟩]):=by rw[<-p9];rfl
@[simp] theorem ayx(p:Pos):Pos.mk p.cs p.h0 p.h1 p.gM p.side=p:=rfl
@[simp] theorem axt{l:List Int}{n:Int}{P:D->Prop}:oA (cl f1 l)[n.toNat]? P .mk=(n.toNat<l.length/\P (.i (gt l n))):=by
 have h:=Wa (f:=f1) l n.toNat 0 (by omega);simp only[eX,bX]at h;rw[h]
 by_cases a:n.toNat<l.length
 .rw[List.getElem?_eq_getElem a];have e:gt l n=l[n.toNat]:=by unfold gt;rw[List.getD_eq_getElem?_getD,List.getElem?_eq_getElem a];rfl
  simp[a,e]
 .rw[bp (by omega)];simp[a]
@[simp] theorem aiK{α:Type}[Inhabited α]{f:α->List D}{sz:Nat}[F:Fl f sz]{l:List α}{t:TypeId}{n:Int}{P:D->Prop}(b:0<sz):oA (vf sz (n.toNat*sz) (some (t,cl f l))) P .mk=(n.toNat<l.length/\P (.agg (f (gt l n)))):=by
 simp only[vf,rN,<-cE];rw[CH,AJ];have h:n.toNat.succ*sz<=l.length*sz↔n.toNat<l.length:=ft b;rw[h];refine propext ⟨λ⟨a,p⟩=>⟨a,?_⟩,λ⟨a,p⟩=>⟨a,?_⟩⟩
 .have e:gt l n=l[n.toNat]:=by unfold gt;rw[List.getD_eq_getElem?_getD,List.getElem?_eq_getElem a];rfl
  rw[uQ,bA a,mD,aW (by rw[F.len];exact Nat.le_refl _),af (by rw[F.len];exact Nat.le_refl _),<-e]at p;exact p
 .have e:gt l n=l[n.toNat]:=by unfold gt;rw[List.getD_eq_getElem?_getD,List.getElem?_eq_getElem a];rfl
  rw[uQ,bA a,mD,aW (by rw[F.len];exact Nat.le_refl _),af (by rw[F.len];exact Nat.le_refl _),<-e];exact p
def mK(ρ:Nat->Option Nat)(H:U)(k sz off n:Nat):Option (TypeId×List D)->D
 | some (_,cs)=>if (off+n)*sz<=cs.length then .sl sz (chunks sz n ((cs.drop (off*sz)).map (gq ρ H k)))else .any
 | none=>.any
@[simp] theorem PG(H:U)(k:Nat)(ρ:Nat->Option Nat)(v g sz off n:Nat):Ji H k ρ v g sz off n none=mK ρ H k sz off n (rowAt H v g):=by unfold Ji mK;rfl
@[simp] theorem tM{α:Type}{f:α->List D}{sz:Nat}[F:Fl f sz]{ρ:Nat->Option Nat}{H:U}{k n:Nat}{t:TypeId}{l:List α}(h:n=l.length):mK ρ H (k+1) sz 0 n (some (t,cl f l)) = .sl sz (l.map f):=by subst h;unfold mK;dsimp only;rw[rN,if_pos (by simp),cO,ei,PJ (tG l),nO,M5 F.len]
@[simp] theorem auX{ρ:Nat->Option Nat}{H:U}{k sz:Nat}{p:TypeId×List D}:mK ρ H k sz 0 0 (some p) = .sl sz []:=by unfold mK;simp[chunks]
@[simp] theorem azF:D.sl 1 []=dI []:=by unfold dI;rfl
@[simp] theorem azG:D.sl 2 []=iw []:=by unfold iw;rfl
@[simp] theorem auZ{ρ:Nat->Option Nat}{H:U}{k:Nat}{t:TypeId}{a b c:List Int}{r q:Int}:mK ρ H (k+1) 5 0 1 (some (t,[dI a,dI b,dI c,.i r,.i q]))=gZ [⟨a,b,c,r,q⟩]:=by have h:=tM (f:=Pos.cells) (ρ:=ρ) (H:=H) (k:=k) (t:=t) (l:=[⟨a,b,c,r,q⟩]) (n:=1) rfl;rw[nO]at h;unfold gZ;exact h
@[simp] theorem azK(l:List Int):D.sl 1 (l.map f1)=dI l:=by unfold dI;rfl
@[simp] theorem azM(l:List Pos):D.sl 5 (l.map Pos.cells)=gZ l:=by unfold gZ;rfl
@[simp] theorem aoS(l:List gd):D.sl 2 (l.map fS)=iw l:=by unfold iw;rfl
def uD(ρ:Nat->Option Nat)(H:U):Option Ob->Ob
 | some o=>ot ρ H o
 | none=>.dead
@[simp] theorem azl(ρ:Nat->Option Nat)(H:U)(t g:Nat)(cs:List D):uD ρ H (some (.row t g cs)) = .row t g (cs.map (gq ρ H 40)):=rfl
@[simp] theorem azi(ρ:Nat->Option Nat)(H:U)(kk:KK)(es:List (Value×D)):uD ρ H (some (.map kk es)) = .map kk (es.map λx=>(x.1,gq ρ H 40 x.2)):=rfl
@[simp] theorem azg(ρ:Nat->Option Nat)(H:U):uD ρ H (some .dead) = .dead:=rfl
@[simp] theorem azh(ρ:Nat->Option Nat)(H:U):uD ρ H (some .jE) = .jE:=rfl
@[simp] theorem azk(ρ:Nat->Option Nat)(H:U)(rf:Nat)(e:Env)(st:qv):uD ρ H (some (.im rf e st)) = .im rf (e.map λx=>(x.1,gq ρ H 40 x.2)) st:=rfl
@[simp] theorem axf:AH []=false:=(rfl)
@[simp] theorem axe(k:Nat)(l:List Nat):AH (k::l)=decide (k=9999):=by
 show Nat.beq k 9999=_
 cases a:Nat.beq k 9999 with
 | true=>exact(decide_eq_true (cz a)).symm
 | false=>exact(decide_eq_false (Nat.ne_of_beq_eq_false a)).symm
@[simp] theorem QJ{n:Nat}{l:List Nat}{s:St}:cut n (9999::l) s = { s with env:=forget (9999::l) s.env }:=by unfold cut;dsimp only;rw[if_pos (.inr rfl)]
def Ni(env:Env)(H:U)(m:List Nat)(r:Bool)(ks:mP):St:={ env:=env.map λp=>(p.1,gq (iv ks) H 40 p.2),H:=ks.map λp=>if p.2 then uD (iv ks) H H[p.1]? else .dead,marks:=m.map λv=>(iv ks v).getD v,ic:=r }
def I8(n:Nat)(env:Env)(H:U)(m:List Nat):List Nat:=dedup (((env.map λp=>jk n p.2).flatten++((H.take n).map (oJ n)).flatten++m.filter (n<=·)).filter (· < H.length))
@[simp low] theorem tH{n:Nat}{live:List Nat}{env:Env}{H:U}{m:List Nat}{r:Bool}(h:¬H.length<=n)(a:AH live=false):cut n live { env:=env,H:=H,marks:=m,ic:=r }=Ni (forget live env) H m r (iI n (I8 n (forget live env) H m)):=by unfold cut Ni I8;dsimp only;rw[if_neg (by rw[a];simpa using h)];rfl
@[simp] theorem avG(K:List Nat):iI 0 K=K.map λv=>(v,true):=rfl
@[simp] theorem avH(K:List Nat):iI 1 K=(0,true)::K.map λv=>(v,true):=rfl
@[simp] theorem avS(K:List Nat):iI 2 K=(0,true)::(1,true)::K.map λv=>(v,true):=rfl
@[simp] theorem avX(K:List Nat):iI 3 K=(0,true)::(1,true)::(2,true)::K.map λv=>(v,true):=rfl
@[simp] theorem avY(K:List Nat):iI 4 K=(0,true)::(1,true)::(2,true)::(3,true)::K.map λv=>(v,true):=rfl
def AS(i:Nat):mP->Nat->Option Nat
 | [],_=>none
 | p::r,v=>if p.2&&p.1 == v then some i else AS (i+1) r v
def aoa(ks:mP)(v:Nat):iv ks v=AS 0 ks v:=by
 have key:∀(ks:mP) (i:Nat),AS i ks v=(ks.findIdx? (λp=>p.2&&p.1 == v)).map (· + i):=by
  intro ks
  induction ks with
  | nil=>intro i;rfl
  | cons p r a=>
   intro i;rw[List.findIdx?_cons];unfold AS;split
   .simp
   .rw[a,Option.map_map];congr 1;funext x;simp;omega
 rw[key];simp[iv]
@[simp] theorem ay3(v:Nat):iv [] v=none:=rfl
@[simp] theorem ay2(p:Nat×Bool)(r:mP)(v:Nat):iv (p::r) v=if (p.2&&p.1 == v)=true then some 0 else AS 1 r v:=by rw[aoa];rfl
@[simp] theorem ay1(i v:Nat):AS i [] v=none:=rfl
@[simp] theorem ay0(i:Nat)(p:Nat×Bool)(r:mP)(v:Nat):AS i (p::r) v=if (p.2&&p.1 == v)=true then some i else AS (i+1) r v:=rfl
@[simp] theorem aum(env:Env)(H:U)(m:List Nat)(r:Bool)(ks:mP):Ni env H m r ks = { env:=env.map λp=>(p.1,gq (iv ks) H 40 p.2),H:=ks.map λp=>if p.2 then uD (iv ks) H H[p.1]? else .dead,marks:=m.map λv=>(iv ks v).getD v,ic:=r }:=rfl
@[simp] theorem ayJ(n:Nat)(env:Env)(H:U)(m:List Nat):I8 n env H m=dedup (((env.map λp=>jk n p.2).flatten++((H.take n).map (oJ n)).flatten++m.filter (n<=·)).filter (· < H.length)):=rfl
@[simp] theorem auo:dedup [] = []:=rfl
@[simp] theorem aun(x:Nat)(r:List Nat):dedup (x::r)=if x∈r then dedup r else x::dedup r:=rfl
theorem Jv(n:Nat){d:D}(h:closed d=true):jk n d = []:=by cases d<;>first|rfl|cases h
@[simp] theorem aAg(n:Nat)(l:List Int):jk n (dI l) = []:=rfl
@[simp] theorem aAl(n:Nat)(l:List Pos):jk n (gZ l) = []:=rfl
@[simp] theorem aAj(n:Nat)(p:Pos):jk n (dP p) = []:=rfl
@[simp] theorem aAk(n:Nat)(l:List gd):jk n (iw l) = []:=rfl
@[simp] theorem aAf(n:Nat)(g:gj):jk n (dG g) = []:=rfl
@[simp] theorem aAd(n:Nat)(g:gj):jk n g.jJ = []:=rfl
@[simp] theorem aAh{α:Type}(n sz:Nat)(f:α->List D)(l:List α):jk n (dN sz f l) = []:=by cases l<;>rfl
@[simp] theorem aAw(n:Nat)(v:Value):jk n (.val v) = []:=rfl
@[simp] theorem aAc(n:Nat):jk n .any = []:=rfl
@[simp] theorem aAo(n:Nat):jk n .gg = []:=rfl
@[simp] theorem aAb(n:Nat)(cs:List D):jk n (.agg cs) = []:=rfl
@[simp] theorem aAv(n:Nat)(cs:List D):jk n (.tup cs) = []:=rfl
@[simp] theorem aAq(n:Nat)(cs:List D):jk n (.gC cs) = []:=rfl
@[simp] theorem aAu(n sz:Nat)(es:List (List D)):jk n (.sl sz es) = []:=rfl
@[simp] theorem aAp(n:Nat)(f:Fn)(a b:List D):jk n (.fn f a b) = []:=rfl
@[simp] theorem ab4(n v g sz off len:Nat):jk n (.fZ v g sz off len)=if n<=v then [v]else []:=rfl
@[simp] theorem aAt(n v g off:Nat):jk n (.ptr v g off)=if n<=v then [v]else []:=rfl
@[simp] theorem aAs(n v:Nat):jk n (.gH v)=if n<=v then [v]else []:=rfl
@[simp] theorem aAx(n v:Nat):jk n (.ja v)=if n<=v then [v]else []:=rfl
theorem an2(n:Nat){cs:List D}(h:gG cs=true):(cs.map (jk n)).flatten = []:=by
 induction cs with
 | nil=>rfl
 | cons d r a=>
  simp only[gG,Bool.and_eq_true]at h;simp[Jv n h.1,a h.2]
@[simp] theorem atJ(n:Nat){α:Type}{f:α->List D}{sz:Nat}[F:Fl f sz](l:List α):((cl f l).map (jk n)).flatten = []:=an2 n (tG l)
@[simp] theorem aiL(n t g:Nat)(cs:List D):oJ n (.row t g cs)=(cs.map (jk n)).flatten:=rfl
@[simp] theorem axR(n:Nat)(kk:KK)(es:List (Value×D)):oJ n (.map kk es)=(es.map λx=>jk n x.2).flatten:=rfl
@[simp] theorem axP(n:Nat):oJ n .dead = []:=rfl
theorem Th{H:U}{d:D}(h:H≠[]):leave 0 0 H d=(gq (λ_=>none) H 40 d,[]):=by unfold leave;rw[if_neg (by rintro(e|e);exact h (ax.1 (by omega));cases e)];rfl
@[simp] theorem aws{o:Ob}{r:U}{d:D}:leave 0 0 (o::r) d=(gq (λ_=>none) (o::r) 40 d,[]):=Th (by simp)
attribute [simp] and_assoc Kind.cells Clause.cells dP Pos.cells dG gj.cells gj.jJ
def kS(T:iD)(n:Nat)(live:List Nat)(a:IR)(s:St)(K:iU)(_:Tag (live,a,s,K)):Prop:=Ev T (.loop n live (lF a) s) (PO K)
def O2(T:iD)(n:Nat)(live:List Nat)(a:IR)(K:iU):iU:=λo=>match o with
 | .norm s=>kS T n live a (cut n live s) K .mk
 | o=>K o
def abq(T:iD)(v rf:Nat)(b:IR)(dst:Option Nat)(s:St)(K:St->Prop):iU:=λo=>match o with
 | .norm s1=>∃a,s1.H[v]? = some (.im rf a .ready)/\XC T b { s1 with H:=s1.H.set v (.im rf a .busy) } (CO v rf dst s K)
 | _=>False
def qx.r{T:iD}{v rf:Nat}{args:List D}{dst:Option Nat}{s:St}{K:St->Prop}{env0:Env}{Rd:qw}(e:s.H[v]? = some (.im rf env0 .ready))(i:T.round rf=some Rd)(hl:args.length=Rd.params.length)
  (c b:IR) (g:lF c=Rd.a) (f:lF b=Rd.b)
  (h:XC T c { env:=uC Rd.params args env0,H:=s.H,ic:=true } (abq T v rf b dst s K)):qx T v args dst s K .mk:=by
 refine⟨rf,env0,Rd,e,i,hl,?_⟩;rw[<-g];refine(XC.wc h).mono λo a=>?_
 cases o with
 | norm s1=>
  obtain⟨d,h1,j⟩:=a;exact⟨s1,d,rfl,h1,by rw[<-f];exact XC.wc j⟩
 | exit=>exact a.elim
 | ret=>exact a.elim
def aog(rf:Nat)(s:St)(K:iU):D->U->Prop:=λ_ H'=>∃env st,H'[s.H.length+1]? = some (.im rf env st)/\oA (AP { s with H:=H'.set (s.H.length+1) .dead,marks:=s.H.length::s.marks } st) K .mk
def tC.r{T:iD}{rf:Nat}{live:List Nat}{x:X}{s:St}{K:iU}{f:FuncId}{first cap:List D}{fn:jo}(b:s.ic=false)(a:ev s.env.get x = .fn (.func f) first cap)(e:T.fn f=some fn)(c:fn.full=true)
  (h:Wf T f (first ++ [.ja (s.H.length+1)]++cap) (s.H ++ [.jE,.im rf (forget live s.env) .ready]) (aog rf s K)):tC T rf live x s K .mk:=
 Ev.oq b a e c h λd H' ⟨d',H2,g,env,st,h1,o,j,i⟩=>by cases g;exact⟨env,st,o,h1,j,o,rfl,i⟩
section
variable{T:iD}{n:Nat}{live:List Nat}{a:IR}{s:St}{K:iU}{id:Nat}
theorem gp.un(h:kS T s.H.length live a { s with env:=forget live s.env } K .mk):gp T live a s K .mk:=Ev.loop h
theorem kS.u(h:XC T a s (O2 T n live a K)):kS T n live a s K .mk:=by
 refine Ev.AE (XC.wc h) (λb ⟨o,e,k⟩=>?_) λo ⟨o',e,k⟩ hs=>?_
 .cases e;exact k
 .cases e
  cases o with
  | norm=>cases hs
  | exit=>exact⟨_,rfl,k⟩
  | ret=>exact⟨_,rfl,k⟩
@[simp ↓] theorem awV:O2 T n live a K (.norm s)=kS T n live a (cut n live s) K .mk:=(rfl)
@[simp ↓] theorem awU:O2 T n live a K (.exit id s)=K (.exit id s):=(rfl)
@[simp ↓] theorem awW:O2 T n live a K (.ret s)=K (.ret s):=(rfl)
end
def Xk{x b:Bool}{P Q:Prop}(k:cond b P Q)(h:x=b:=by first|(show _=true;first|assumption|exact decide_eq_true (by assumption))|(show _=false;first|assumption|exact decide_eq_false (by assumption))):X2 x P Q .mk:=by subst h;cases x<;>simpa using k
class PB (x:Bool) (I:outParam (Prop->Prop)) (q:outParam Prop):Prop where
 t:∀ {P:Prop},I P->x=true->P
 f:x=false->q
instance(priority:=low){x:Bool}:PB x (λP=>x=true->P) (x=false):=⟨λh e=>h e,id⟩
instance{p:Prop}[Decidable p]:PB (decide p) (λP=>p->P) (¬p):=⟨λh e=>h (of_decide_eq_true e),of_decide_eq_false⟩
instance{p q:Prop}[Decidable p][Decidable q]:PB (decide p&&decide q) (λP=>p->q->P) (¬(p/\q)):=⟨λh e=>by
 rw[<-dQ]at e
 exact h (of_decide_eq_true e).1 (of_decide_eq_true e).2,λe=>by rw[<-dQ]at e;exact of_decide_eq_false e⟩
instance{p q:Prop}[Decidable p][Decidable q]:PB (decide p||decide q) (λP=>p\/q->P) (¬(p\/q)):=⟨λh e=>by
 rw[<-fM]at e
 exact h (of_decide_eq_true e),λe=>by rw[<-fM]at e;exact of_decide_eq_false e⟩
def Xs{x:Bool}{I:Prop->Prop}{q P Q:Prop}[c:PB x I q](h:I P)(k:q->Q):X2 x P Q .mk:=⟨c.t h,λe=>k (c.f e)⟩
def Yc{T:iD}{f:FuncId}{args:List D}{dst:Option Nat}{s:St}{K:St->Prop}{fn:jo}{x:D}(h:Wf T f args [] λd H'=>d=x/\H' = [])(k:K { s with env:=put s.env dst x })
  (c:T.fn f=some fn:=by exact rfl) (b:fn.full=false:=by exact rfl) (e:gG args=true:=by simp) (a:closed x=true:=by simp):gx T f args dst s K .mk:=gx.c c b h e a k
def Yt{T:iD}{f:FuncId}{args:List D}{R:List Fp}{dst:Option Nat}{s:St}{Q:Rc->St->Prop}{fn:jo}{x:D}(h:Wf T f args [] λd H'=>d=x/\H' = [])(k:Q ⟨R,[]⟩ { s with env:=put s.env dst x })
  (c:T.fn f=some fn:=by exact rfl) (b:fn.full=false:=by exact rfl) (e:gG args=true:=by simp) (a:closed x=true:=by simp):jh T f args R dst s Q .mk:=jh.c c b h e a k
def Yr{T:iD}{f:FuncId}{args oN:List D}{dst:Option Nat}{s:St}{K:St->Prop}{fn:jo}{x:D}(h:Wf T f oN [] λd H'=>d=x/\H' = [])(k:K { s with env:=put s.env dst x })
  (e:T.fn f=some fn:=by exact rfl) (c:fn.full=false:=by exact rfl) (hs:args.map (gq (λ_=>none) s.H 40)=oN:=by simp) (b:flat x=true:=by simp[flat]) (a:closed x=true:=by simp):gx T f args dst s K .mk:=gx.r e c h hs b a k
def Yg{T:iD}{f:FuncId}{args:List D}{H:U}(fn:jo){K:D->U->Prop}(h:XC T fn.body { env:=uo args,H:=H } (zR fn.results fn.own H.length K))
  (b:T.fn f=some fn:=by exact rfl) (hl:args.length<=fn.ntmps:=by exact db rfl) (a:uu fn.body=true:=by exact rfl):Wf T f args H K:=Wf.x b hl h a
def Yz{T:iD}{f:FuncId}{args:List D}{H:U}(fn:jo)(c:IR){K:D->U->Prop}(h:XC T c { env:=uo args,H:=H } (zR fn.results fn.own H.length K))
  (a:T.fn f=some fn:=by exact rfl) (hl:args.length<=fn.ntmps:=by exact db rfl) (b:lF c=fn.body:=by simp only[A2,A3];exact oL rfl):Wf T f args H K:=Wf.xz fn.own c a hl b h
structure Bx(p:Prop):Prop where
 x:p
def mQ{P:Prop}(h:P:=by(with_reducible repeat' first|refine Xk ?_<;>try simp|refine Xs ?_ ?_<;>intro h<;>(try intro a)<;>(try simp[h])<;>try omega|refine Xg ?_|omega)):P:=h
def gf{P Q:Prop}(k:Q)(h:Bx Q->P:=by intro k;(with_reducible repeat' first|refine Xk ?_<;>try simp|refine Xs ?_ ?_<;>intro h<;>(try intro a)<;>(try simp[h])<;>try omega|refine Xg ?_|omega);exact k.x):P:=h ⟨k⟩
def jT{P Q R:Prop}(k:Q)(l:R)(h:Bx Q->Bx R->P:=by intro k l;(with_reducible repeat' first|refine Xk ?_<;>try simp|refine Xs ?_ ?_<;>intro h<;>(try intro a)<;>(try simp[h])<;>try omega|refine Xg ?_|omega);(revert h;exact k.x);(revert h;exact l.x)):P:=h ⟨k⟩ ⟨l⟩
def jD{A P Q:Prop}(a:A)(k:Q)(h:A->Bx Q->P:=by intro a k;(with_reducible repeat' first|refine Xk ?_<;>try simp[a]|refine Xs ?_ ?_<;>intro h<;>(try intro b)<;>(try simp[h,a])<;>try omega|refine Xg ?_|omega);exact k.x):P:=h a ⟨k⟩
def F9{A P Q R:Prop}(a:A)(k:Q)(l:R)(h:A->Bx Q->Bx R->P:=by intro a k l;(with_reducible repeat' first|refine Xk ?_<;>try simp[a]|refine Xs ?_ ?_<;>intro h<;>(try intro b)<;>(try simp[h,a])<;>try omega|refine Xg ?_|omega);(revert h;exact k.x);(revert h;exact l.x)):P:=h a ⟨k⟩ ⟨l⟩
def kJ{A B P Q:Prop}(b:A)(a:B)(k:Q)(h:A->B->Bx Q->P:=by intro b a k;(with_reducible repeat' first|refine Xk ?_<;>try simp[b,a]|refine Xs ?_ ?_<;>intro h<;>(try intro c)<;>(try simp[h,b,a])<;>try omega|refine Xg ?_|omega);exact k.x):P:=h b a ⟨k⟩
def acB{A B C P:Prop}(c:A)(b:B)(a:C)(h:A->B->C->P:=by intro c b a;(with_reducible repeat' first|refine Xk ?_<;>try simp[c,b,a]|refine Xs ?_ ?_<;>intro h<;>(try intro d)<;>(try simp[h,c,b,a])<;>try omega|refine Xg ?_|omega)):P:=h c b a
def qy{A B C P Q:Prop}(c:A)(b:B)(a:C)(k:Q)(h:A->B->C->Bx Q->P:=by intro c b a k;(with_reducible repeat' first|refine Xk ?_<;>try simp[c,b,a]|refine Xs ?_ ?_<;>intro h<;>(try intro d)<;>(try simp[h,c,b,a])<;>try omega|refine Xg ?_|omega);exact k.x):P:=h c b a ⟨k⟩
def acC{A B C P Q R:Prop}(c:A)(b:B)(a:C)(k:Q)(l:R)(h:A->B->C->Bx Q->Bx R->P:=by intro c b a k l;(with_reducible repeat' first|refine Xk ?_<;>try simp[c,b,a]|refine Xs ?_ ?_<;>intro h<;>(try intro d)<;>(try simp[h,c,b,a])<;>try omega|refine Xg ?_|omega);(revert h;exact k.x);(revert h;exact l.x)):P:=h c b a ⟨k⟩ ⟨l⟩
def Dz{A B C D P Q:Prop}(d:A)(c:B)(b:C)(a:D)(k:Q)(h:A->B->C->D->Bx Q->P:=by intro d c b a k;(with_reducible repeat' first|refine Xk ?_<;>try simp[d,c,b,a]|refine Xs ?_ ?_<;>intro h<;>(try intro e)<;>(try simp[h,d,c,b,a])<;>try omega|refine Xg ?_|omega);exact k.x):P:=h d c b a ⟨k⟩
