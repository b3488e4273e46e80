/- Part 38 of DisputeTruth. -/
import Derived.Test.YtmehofoficaelaaGreatDoorV36
set_option linter.all false
namespace Go.Proofs.YtmehofoficaelaaGreatDoor
open Go Go.AL Classical
set_option maxRecDepth 10000
set_option maxHeartbeats 8000000
section
variable{m:List Int}{ls:List (Int×List Int)}{G:U}
@[simp] theorem aoj(h:0<(LH m ls).length):(LH m ls)[0]'h = .row 56 0 [dI m]:=rfl
@[simp] theorem aok(h:1<(LH m ls).length):(LH m ls)[1]'h = .map (.int .i64) (PM 2 ls):=rfl
end
@[simp] theorem arl(t:TypeId)(v n:Nat):sA t (.gx v) n=some (.ptr n 0 0,.new (.row t 0 [.gx v])):=rfl
@[simp] theorem arj(t:TypeId)(n:Nat):sA t .fX n=some (.ptr n 0 0,.new (.row t 0 [.fX])):=rfl
theorem f160{v gen t:Nat}{l:List Int}{H:U}{K:D->U->Prop}(h0:0<l.length)(b:l.length<4611686018427387904)(a:H[v]? = some (.row t gen (cl f1 l)))
  (k:K (.tup []) (H.set v (.row t gen (cl f1 (l.mergeSort λx y=>decide (x<=y)))))):Wf T 67 [.fM v gen 1 0 l.length] H K:=by
 rw[yX]at a k;exact Ev.sV l rfl h0 b a ⟨_,_,rfl,k⟩
attribute [-simp] s7
section
variable{g:fY}{m:List Int}{l:List Pos}
