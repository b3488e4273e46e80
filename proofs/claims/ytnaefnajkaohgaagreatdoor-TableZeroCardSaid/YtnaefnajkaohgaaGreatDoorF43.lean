/- Part 43 of the proof of skewer.skewerlaw15.TableZero. -/
import Derived.Test.YtnaefnajkaohgaaGreatDoorF40
import Derived.Test.YtnaefnajkaohgaaGreatDoorF21
set_option linter.all false
namespace Go.Proofs.YtnaefnajkaohgaaGreatDoor
open Go Go.AL Classical
set_option maxRecDepth 10000
set_option maxHeartbeats 8000000
section
variable{m:List Int}{ls:List (Int×List Int)}{G:U}
@[simp] theorem aao(h:0<(LH m ls).length):(LH m ls)[0]'h = .row 50 0 [dI m]:=rfl
@[simp] theorem aap(h:1<(LH m ls).length):(LH m ls)[1]'h = .map (.int .i64) (Fz 2 ls):=rfl
end
@[simp] theorem ade(t:TypeId)(v n:Nat):mT t (.omap v) n=some (.ptr n 0 0,.new (.row t 0 [.omap v])):=rfl
@[simp] theorem ada(t:TypeId)(n:Nat):mT t .emp n=some (.ptr n 0 0,.new (.row t 0 [.emp])):=rfl
attribute [-simp] JZ
section
variable{g:ew}{m:List Int}{l:List Pos}
