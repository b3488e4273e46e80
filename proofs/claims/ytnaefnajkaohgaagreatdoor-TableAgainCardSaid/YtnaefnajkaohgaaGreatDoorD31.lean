/- Part 31 of the proof of skewer.skewerlaw15.TableAgain. -/
import Derived.Test.YtnaefnajkaohgaaGreatDoorD28
import Derived.Test.YtnaefnajkaohgaaGreatDoorD29
import Derived.Test.YtnaefnajkaohgaaGreatDoorD30
set_option linter.all false
namespace Go.Proofs.YtnaefnajkaohgaaGreatDoor
open Go Go.AL Classical
set_option maxRecDepth 10000
set_option maxHeartbeats 8000000
theorem f11:Wf T 11 [] [] (Is (.b true)):=by
 refine Ev.mono k5 fun r hr=>?_
 obtain⟨x,hx,hr⟩:=hr
 rw[List.mem_singleton]at hx
 subst hx
 exact⟨_,_,hr,rfl,rfl⟩
