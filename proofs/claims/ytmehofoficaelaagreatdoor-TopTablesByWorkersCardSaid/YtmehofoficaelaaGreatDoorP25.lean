/- 25 -/
import Derived.Test.YtmehofoficaelaaGreatDoorP24
set_option linter.all false
namespace Go.Proofs.YtmehofoficaelaaGreatDoor
open Go Go.AL Classical
set_option maxRecDepth 10000
set_option maxHeartbeats 8000000
def ar5(part:List Int)(k:Int):Int:=if k=0 then -1 else gt part (k-1)
@[simp] theorem aC0(part:List Int):ar5 part 0 = -1:=rfl
