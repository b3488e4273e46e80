/- Part 39 of DisputeHonest. -/
import Derived.Test.YtmehofoficaelaaGreatDoorH36
set_option linter.all false
namespace Go.Proofs.YtmehofoficaelaaGreatDoor
open Go Go.AL Classical
set_option maxRecDepth 10000
set_option maxHeartbeats 8000000
section
variable{m:List Int}{ls:List (Int×List Int)}{G:U}
@[simp] theorem ald(h:0<(LH m ls).length):(LH m ls)[0]'h = .row 56 0 [dI m]:=rfl
@[simp] theorem ale(h:1<(LH m ls).length):(LH m ls)[1]'h = .map (.int .i64) (NC 2 ls):=rfl
end
@[simp] theorem aof(t:TypeId)(v n:Nat):rX t (.fV v) n=some (.ptr n 0 0,.new (.row t 0 [.fV v])):=rfl
@[simp] theorem aod(t:TypeId)(n:Nat):rX t .fw n=some (.ptr n 0 0,.new (.row t 0 [.fw])):=rfl
theorem f160{v gen t:Nat}{l:List Int}{H:U}{K:D->U->Prop}(h0:0<l.length)(b:l.length<4611686018427387904)(a:H[v]? = some (.row t gen (cl f1 l)))
  (k:K (.tup []) (H.set v (.row t gen (cl f1 (l.mergeSort λx y=>decide (x<=y)))))):Wf T 67 [.fm v gen 1 0 l.length] H K:=by
 rw[Nd]at a k;exact Ev.rR l rfl h0 b a ⟨_,_,rfl,k⟩
attribute [-simp] uZ
section
variable{g:fu}{m:List Int}{l:List Pos}
