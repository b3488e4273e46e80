/- Part 38 of DisputeSettles. -/
import Derived.Test.YtmehofoficaelaaGreatDoorS36
set_option linter.all false
namespace Go.Proofs.YtmehofoficaelaaGreatDoor
open Go Go.AL Classical
set_option maxRecDepth 10000
set_option maxHeartbeats 8000000
section
variable{m:List Int}{ls:List (Int×List Int)}{G:U}
@[simp] theorem apS(h:0<(LH m ls).length):(LH m ls)[0]'h = .row 56 0 [dI m]:=rfl
@[simp] theorem apT(h:1<(LH m ls).length):(LH m ls)[1]'h = .map (.int .i64) (QY 2 ls):=rfl
end
@[simp] theorem asX(t:TypeId)(v n:Nat):sW t (.gH v) n=some (.ptr n 0 0,.new (.row t 0 [.gH v])):=rfl
@[simp] theorem asV(t:TypeId)(n:Nat):sW t .gg n=some (.ptr n 0 0,.new (.row t 0 [.gg])):=rfl
theorem f160{v gen t:Nat}{l:List Int}{H:U}{K:D->U->Prop}(h0:0<l.length)(b:l.length<4611686018427387904)(a:H[v]? = some (.row t gen (cl f1 l)))
  (k:K (.tup []) (H.set v (.row t gen (cl f1 (l.mergeSort λx y=>decide (x<=y)))))):Wf T 67 [.fZ v gen 1 0 l.length] H K:=by
 rw[zG]at a k;exact Ev.tz l rfl h0 b a ⟨_,_,rfl,k⟩
attribute [-simp] tH
section
variable{g:gj}{m:List Int}{l:List Pos}
