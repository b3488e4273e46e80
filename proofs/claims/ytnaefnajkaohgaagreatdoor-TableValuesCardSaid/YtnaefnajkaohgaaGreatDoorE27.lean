/- Part 27 of the proof of skewer.skewerlaw15.TableValues. -/
import Derived.Test.YtnaefnajkaohgaaGreatDoorE26
set_option linter.all false
namespace Go.Proofs.YtnaefnajkaohgaaGreatDoor
open Go Go.AL Classical
set_option maxRecDepth 10000
set_option maxHeartbeats 8000000
def acW(part:List Int)(k:Int):Int:=if k=0 then -1 else gt part (k-1)
@[simp] theorem amm(part:List Int):acW part 0 = -1:=rfl
