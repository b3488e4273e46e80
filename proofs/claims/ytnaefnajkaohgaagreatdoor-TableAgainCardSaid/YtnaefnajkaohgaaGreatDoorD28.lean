/- Part 28 of the proof of skewer.skewerlaw15.TableAgain. -/
import Derived.Test.YtnaefnajkaohgaaGreatDoorD27
set_option linter.all false
namespace Go.Proofs.YtnaefnajkaohgaaGreatDoor
open Go Go.AL Classical
set_option maxRecDepth 10000
set_option maxHeartbeats 8000000
def xP(part:List Int)(k:Int):Int:=if k=0 then -1 else gt part (k-1)
@[simp] theorem abz(part:List Int):xP part 0 = -1:=rfl
theorem Pz{part:List Int}{k:Int}(h:0≤k):xP part (k+1)=gt part k:=by
 unfold xP;rw[if_neg (by omega),Int.add_sub_cancel]
def GG(n:Nat)(part:List Int):Prop:=∀ k:Int,0≤k→k<part.length→xP part k<gt part k∧gt part k<n
