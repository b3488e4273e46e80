/- Part 43 of the proof of skewer.skewerlaw15.TableAgain. -/
import Derived.Test.YtnaefnajkaohgaaGreatDoorD39
import Derived.Test.YtnaefnajkaohgaaGreatDoorD19
set_option linter.all false
namespace Go.Proofs.YtnaefnajkaohgaaGreatDoor
open Go Go.AL Classical
set_option maxRecDepth 10000
set_option maxHeartbeats 8000000
section
variable{m:List Int}{ls:List (Int×List Int)}{G:U}
@[simp] theorem adl(h:0<(LH m ls).length):(LH m ls)[0]'h = .row 50 0 [dI m]:=rfl
@[simp] theorem adm(h:1<(LH m ls).length):(LH m ls)[1]'h = .map (.int .i64) (Hv 2 ls):=rfl
end
@[simp] theorem af2(t:TypeId)(v n:Nat):pG t (.omap v) n=some (.ptr n 0 0,.new (.row t 0 [.omap v])):=rfl
@[simp] theorem af0(t:TypeId)(n:Nat):pG t .emp n=some (.ptr n 0 0,.new (.row t 0 [.emp])):=rfl
attribute [-simp] Hi
section
variable{g:eO}{m:List Int}{l:List Pos}
