/- Part 43 of TableHurry. -/
import Derived.Test.YtnaefnajkaohgaaGreatDoorG40
import Derived.Test.YtnaefnajkaohgaaGreatDoorG21
set_option linter.all false
namespace Go.Proofs.YtnaefnajkaohgaaGreatDoor
open Go Go.AL Classical
set_option maxRecDepth 10000
set_option maxHeartbeats 8000000
section
variable{m:List Int}{ls:List (Int×List Int)}{G:et}
@[simp] theorem aaG(h:0<(LH m ls).length):(LH m ls)[0]'h = .row 50 0 [dI m]:=rfl
@[simp] theorem aaH(h:1<(LH m ls).length):(LH m ls)[1]'h = .map (.int .i64) (FL 2 ls):=rfl
end
@[simp] theorem adw(t:TypeId)(v n:Nat):mZ t (.fC v) n=some (.ptr n 0 0,.new (.row t 0 [.fC v])):=rfl
@[simp] theorem adu(t:TypeId)(n:Nat):mZ t .U n=some (.ptr n 0 0,.new (.row t 0 [.U])):=rfl
attribute [-simp] Ke
section
variable{g:ey}{m:List Int}{l:List Pos}
