/- Part 39 of DisputeReferee. -/
import Derived.Test.YtmehofoficaelaaGreatDoorR36
set_option linter.all false
namespace Go.Proofs.YtmehofoficaelaaGreatDoor
open Go Go.AL Classical
set_option maxRecDepth 10000
set_option maxHeartbeats 8000000
section
variable{m:List Int}{ls:List (Int×List Int)}{G:U}
@[simp] theorem alU(h:0<(LH m ls).length):(LH m ls)[0]'h = .row 56 0 [dI m]:=rfl
@[simp] theorem alV(h:1<(LH m ls).length):(LH m ls)[1]'h = .map (.int .i64) (N3 2 ls):=rfl
end
@[simp] theorem aoV(t:TypeId)(v n:Nat):sB t (.gg v) n=some (.ptr n 0 0,.new (.row t 0 [.gg v])):=rfl
@[simp] theorem aoT(t:TypeId)(n:Nat):sB t .fJ n=some (.ptr n 0 0,.new (.row t 0 [.fJ])):=rfl
theorem f160{v gen t:Nat}{l:List Int}{H:U}{K:D->U->Prop}(h0:0<l.length)(b:l.length<4611686018427387904)(a:H[v]? = some (.row t gen (cl f1 l)))
  (k:K (.tup []) (H.set v (.row t gen (cl f1 (l.mergeSort λx y=>decide (x<=y)))))):Wf T 67 [.fy v gen 1 0 l.length] H K:=by
 rw[NF]at a k;exact Ev.su l rfl h0 b a ⟨_,_,rfl,k⟩
attribute [-simp] rQ
section
variable{g:fH}{m:List Int}{l:List Pos}
