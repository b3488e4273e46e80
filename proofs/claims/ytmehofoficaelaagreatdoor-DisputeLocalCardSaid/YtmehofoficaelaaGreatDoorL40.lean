/- Part 40 of DisputeLocal. -/
import Derived.Test.YtmehofoficaelaaGreatDoorL38
set_option linter.all false
namespace Go.Proofs.YtmehofoficaelaaGreatDoor
open Go Go.AL Classical
set_option maxRecDepth 10000
set_option maxHeartbeats 8000000
section
variable{m:List Int}{ls:List (Int×List Int)}{G:U}
@[simp] theorem ag3(h:0<(LH m ls).length):(LH m ls)[0]'h = .row 56 0 [dI m]:=rfl
@[simp] theorem ag4(h:1<(LH m ls).length):(LH m ls)[1]'h = .map (.int .i64) (JZ 2 ls):=rfl
end
@[simp] theorem ajY(t:TypeId)(v n:Nat):qq t (.gF v) n=some (.ptr n 0 0,.new (.row t 0 [.gF v])):=rfl
@[simp] theorem ajW(t:TypeId)(n:Nat):qq t .eU n=some (.ptr n 0 0,.new (.row t 0 [.eU])):=rfl
attribute [-simp] O8
section
variable{g:eY}{m:List Int}{l:List Pos}
