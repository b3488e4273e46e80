/- Part 24 of the proof of skewer.skewerlaw15.TableRefuses. -/
import Derived.Test.YtnaefnajkaohgaaGreatDoorA23
set_option linter.all false
namespace Go.AL
open Go
@[irreducible] def fU(n:Int):List D:=[.val (.int .u8 n)]
@[simp] theorem fU_def(n:Int):fU n = [.val (.int .u8 n)]:=by unfold fU;rfl
instance:Fl fU 1:=⟨fun _=>by simp,fun _=>by simp[closedL]⟩
def dU(l:List Int):D:=.sl 1 (l.map fU)
@[simp] theorem closed_dU(l:List Int):closed (dU l)=true:=by unfold dU;exact closed_slm l
@[simp] theorem len_dU(l:List Int)(H:Heap):lenO .slice (dU l) H=some (.i l.length):=by simp[dU]
@[simp] theorem oA_idxU{l:List Int}{n:Int}{k:IntKind}{P:D→Prop}:oA (idxAO 1 (dU l) (.val (.int k n))) P .mk=((0≤n∧n<l.length)∧P (.fptr [.val (.int .u8 (gt l n))])):=by unfold dU;rw[oA_idx,fU_def]
@[simp] theorem topRef_dU(n:Nat)(l:List Int):topRef n (dU l) = []:=rfl
@[simp] theorem cellsOf_dU(l:List Int):cellsOf (dU l)=some [dU l]:=rfl
@[simp] theorem one_dU(l:List Int):one (dU l)=true:=rfl
@[simp] theorem whole_dU(l:List Int):wholeOf (dU l) = []:=by unfold dU;rfl
structure PrOK(dirs kinds rights:Int)(l:List Stp):Prop where
 steps:∀ x∈l,((x.1=1∨x.1=2∨x.1=7)∧0≤x.2∧x.2<dirs)∨(3≤x.1∧x.1≤6∧x.2=0)∨(x.1=8∧0≤x.2∧x.2<kinds)∨((x.1=9∨x.1=10)∧0≤x.2∧x.2<rights)
 len:l.length≤8
 takes:cntOp l 6≤2
 push:cntOp l 7≤1
 become:cntOp l 8≤1
@[simp] theorem ar_addU8(a b:Int):arithO .add .u8 a b=some (.val (.int .u8 (IntKind.u8.wrap (a+b)))):=rfl
@[simp] theorem ar_subU8(a b:Int):arithO .sub .u8 a b=some (.val (.int .u8 (IntKind.u8.wrap (a-b)))):=rfl
theorem wrapU8_in(n:Int):0≤IntKind.u8.wrap n∧IntKind.u8.wrap n<256:=by
 simp only[IntKind.wrap,IntKind.bits,IntKind.signed]
 simp
 omega
theorem quoU8_in(a b:Int):0≤quoK .u8 a b∧quoK .u8 a b<256:=wrapU8_in _
theorem dU_lit{ρ:Nat→Option Nat}{H:Heap}{k n:Nat}{t:TypeId}{cs:List D}(l:List Int)(h:cs=l.map fun n=>D.val (.int .u8 n))(hn:n=l.length):fzR ρ H (k+1) 1 0 n (some (t,cs))=dU l:=by
 subst hn
 have e:cs=cl fU l:=by
  rw[h,cl_def]
  clear h
  induction l with
  | nil=>rfl
  | cons a r ih=>simp[← ih]
 rw[e,fzR_cl rfl]
 rfl
theorem oA_idxG{sz:Nat}{es:List (List D)}{k:IntKind}{n:Int}{P:D→Prop}:oA (idxAO sz (.sl sz es) (.val (.int k n))) P .mk=((0≤n∧n<es.length)∧P (.fptr (es.getD n.toNat []))):=by
 simp only[idxAO,true_and,oA_iteN,oA_some]
theorem oA.i{α:Type}{x:Option α}{P:α→Prop}{t:Tag P}{a:α}(h1:x=some a)(h2:P a):oA x P t:=⟨a,h1,h2⟩
end Go.AL
