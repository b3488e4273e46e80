/- Part 29 of the proof of skewer.skewerlaw15.TableLoads. -/
import Derived.Test.YtnaefnajkaohgaaGreatDoorB28
set_option linter.all false
namespace Go.Proofs.YtnaefnajkaohgaaGreatDoor
open Go Go.AL Classical
set_option maxRecDepth 10000
set_option maxHeartbeats 8000000
def prevP(part:List Int)(k:Int):Int:=if k=0 then -1 else gt part (k-1)
@[simp] theorem prevP_0(part:List Int):prevP part 0 = -1:=rfl
end Go.Proofs.YtnaefnajkaohgaaGreatDoor
