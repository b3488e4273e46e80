/- Part 25 of DisputeMatchesReference. -/
import Derived.Test.YtmehofoficaelaaGreatDoorM24
set_option linter.all false
namespace Go.Proofs.YtmehofoficaelaaGreatDoor
open Go Go.AL Classical
set_option maxRecDepth 10000
set_option maxHeartbeats 8000000
def aos(part:List Int)(k:Int):Int:=if k=0 then -1 else gt part (k-1)
@[simp] theorem aze(part:List Int):aos part 0 = -1:=rfl
