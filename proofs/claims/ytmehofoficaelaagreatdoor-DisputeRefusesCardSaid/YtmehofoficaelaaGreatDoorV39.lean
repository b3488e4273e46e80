/- 39 -/
import Derived.Test.YtmehofoficaelaaGreatDoorV35
set_option linter.all false
namespace Go.Proofs.YtmehofoficaelaaGreatDoor
open Go Go.AL Classical
set_option maxRecDepth 10000
set_option maxHeartbeats 8000000
section
variable{m:List Int}{ls:List (Int×List Int)}{G:gd}
@[simp] theorem aoS(h:0<(LH m ls).length):(LH m ls)[0]'h = .row 56 0 [dI m]:=rfl
@[simp] theorem aoT(h:1<(LH m ls).length):(LH m ls)[1]'h = .map (.int .i64) (Qi 2 ls):=rfl
end
@[simp] theorem arW(t:TypeId)(v n:Nat):sY t (.gH v) n=some (.ptr n 0 0,.new (.row t 0 [.gH v])):=rfl
@[simp] theorem arU(t:TypeId)(n:Nat):sY t .gi n=some (.ptr n 0 0,.new (.row t 0 [.gi])):=rfl
theorem f160{v gen t:Nat}{l:List Int}{H:gd}{K:D->gd->Prop}(h0:0<l.length)(b:l.length<4611686018427387904)(a:H[v]? = some (.row t gen (cl f1 l)))
  (k:K (.tup []) (H.set v (.row t gen (cl f1 (l.mergeSort λx y=>decide (x<=y)))))):Wf T 67 [.gf v gen 1 0 l.length] H K:=by
 rw[zy]at a k;exact Ev.tm l rfl h0 b a ⟨_,_,rfl,k⟩
attribute [-simp] uK
section
variable{g:gq}{m:List Int}{l:List Pos}
