/- Part 30 of TableHurry. -/
import Derived.Test.YtnaefnajkaohgaaGreatDoorG29
set_option linter.all false
namespace Go.Proofs.YtnaefnajkaohgaaGreatDoor
open Go Go.AL Classical
set_option maxRecDepth 10000
set_option maxHeartbeats 8000000
@[simp] theorem adt(t:TypeId)(l:List Pos)(n:Nat):mZ t (fh l) n=some (.ptr n 0 0,.new (.row t 0 [fh l])):=by unfold mZ;rw[O0]
@[simp] theorem ads(t:TypeId)(l:List eI)(n:Nat):mZ t (ft l) n=some (.ptr n 0 0,.new (.row t 0 [ft l])):=by unfold mZ;rw[OZ]
def Y1(part:List Int)(k:Int):Int:=if k=0 then -1 else gt part (k-1)
@[simp] theorem ail(part:List Int):Y1 part 0 = -1:=rfl
