/- Part 29 of the proof of skewer.skewerlaw15.TableSlices. -/
import Derived.Test.YtnaefnajkaohgaaGreatDoorC28
set_option linter.all false
namespace Go.Proofs.YtnaefnajkaohgaaGreatDoor
open Go Go.AL Classical
set_option maxRecDepth 10000
set_option maxHeartbeats 8000000
def prevP(part:List Int)(k:Int):Int:=if k=0 then -1 else gt part (k-1)
@[simp] theorem prevP_0(part:List Int):prevP part 0 = -1:=rfl
theorem prevP_s{part:List Int}{k:Int}(h:0≤k):prevP part (k+1)=gt part k:=by
 unfold prevP;rw[if_neg (by omega),Int.add_sub_cancel]
def PartOK(n:Nat)(part:List Int):Prop:=∀ k:Int,0≤k→k<part.length→prevP part k<gt part k∧gt part k<n
end Go.Proofs.YtnaefnajkaohgaaGreatDoor
