/- Part 36 of DisputeMatchesReference. -/
import Derived.Test.YtmehofoficaelaaGreatDoorM35
set_option linter.all false
namespace Go.Proofs.YtmehofoficaelaaGreatDoor
open Go Go.AL Classical
set_option maxRecDepth 10000
set_option maxHeartbeats 8000000
section
variable{m:List Int}{ls:List (Int×List Int)}{G:gg}
@[simp] theorem aqy(h:0<(LH m ls).length):(LH m ls)[0]'h = .row 56 0 [dI m]:=rfl
@[simp] theorem aqz(h:1<(LH m ls).length):(LH m ls)[1]'h = .map (.int .i64) (RB 2 ls):=rfl
end
@[simp] theorem atD(t:TypeId)(v n:Nat):uk t (.gM v) n=some (.ptr n 0 0,.new (.row t 0 [.gM v])):=rfl
@[simp] theorem atA(t:TypeId)(n:Nat):uk t .gp n=some (.ptr n 0 0,.new (.row t 0 [.gp])):=rfl
theorem f160{v gen t:Nat}{l:List Int}{H:gg}{K:D->gg->Prop}(h0:0<l.length)(b:l.length<4611686018427387904)(a:H[v]? = some (.row t gen (cl f1 l)))
  (k:K (.tup []) (H.set v (.row t gen (cl f1 (l.mergeSort λx y=>decide (x<=y)))))):Wf T 67 [.gh v gen 1 0 l.length] H K:=by
 rw[y8]at a k;exact Ev.uM l rfl h0 b a ⟨_,_,rfl,k⟩
attribute [-simp] uU
section
variable{g:gv}{m:List Int}{l:List Pos}
