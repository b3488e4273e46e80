/- Part 30 of the proof of skewer.skewerlaw15.TableZero. -/
import Derived.Test.YtnaefnajkaohgaaGreatDoorF29
set_option linter.all false
namespace Go.Proofs.YtnaefnajkaohgaaGreatDoor
open Go Go.AL Classical
set_option maxRecDepth 10000
set_option maxHeartbeats 8000000
@[simp] theorem ac9(t:TypeId)(l:List Pos)(n:Nat):mT t (fe l) n=some (.ptr n 0 0,.new (.row t 0 [fe l])):=by unfold mT;rw[OD]
@[simp] theorem ac8(t:TypeId)(l:List eG)(n:Nat):mT t (fq l) n=some (.ptr n 0 0,.new (.row t 0 [fq l])):=by unfold mT;rw[OC]
def YI(part:List Int)(k:Int):Int:=if k=0 then -1 else gt part (k-1)
@[simp] theorem ah2(part:List Int):YI part 0 = -1:=rfl
