/- Part 38 of DisputeWorkers. -/
import Derived.Test.YtmehofoficaelaaGreatDoorW36
set_option linter.all false
namespace Go.Proofs.YtmehofoficaelaaGreatDoor
open Go Go.AL Classical
set_option maxRecDepth 10000
set_option maxHeartbeats 8000000
section
variable{m:List Int}{ls:List (Int×List Int)}{G:U}
@[simp] theorem ao2(h:0<(LH m ls).length):(LH m ls)[0]'h = .row 56 0 [dI m]:=rfl
@[simp] theorem ao3(h:1<(LH m ls).length):(LH m ls)[1]'h = .map (.int .i64) (Qg 2 ls):=rfl
end
@[simp] theorem ar6(t:TypeId)(v n:Nat):rK t (.gD v) n=some (.ptr n 0 0,.new (.row t 0 [.gD v])):=rfl
@[simp] theorem ar4(t:TypeId)(n:Nat):rK t .gg n=some (.ptr n 0 0,.new (.row t 0 [.gg])):=rfl
theorem f160{v gen t:Nat}{l:List Int}{H:U}{K:D->U->Prop}(h0:0<l.length)(b:l.length<4611686018427387904)(a:H[v]? = some (.row t gen (cl f1 l)))
  (k:K (.tup []) (H.set v (.row t gen (cl f1 (l.mergeSort λx y=>decide (x<=y)))))):Wf T 67 [.fY v gen 1 0 l.length] H K:=by
 rw[zt]at a k;exact Ev.tt l rfl h0 b a ⟨_,_,rfl,k⟩
attribute [-simp] uL
section
variable{g:gi}{m:List Int}{l:List Pos}
