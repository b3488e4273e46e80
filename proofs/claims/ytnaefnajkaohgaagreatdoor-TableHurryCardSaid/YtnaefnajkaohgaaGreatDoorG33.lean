/- Part 33 of TableHurry. -/
import Derived.Test.YtnaefnajkaohgaaGreatDoorG30
import Derived.Test.YtnaefnajkaohgaaGreatDoorG31
import Derived.Test.YtnaefnajkaohgaaGreatDoorG32
set_option linter.all false
namespace Go.Proofs.YtnaefnajkaohgaaGreatDoor
open Go Go.AL Classical
set_option maxRecDepth 10000
set_option maxHeartbeats 8000000
theorem f11:Wf T 11 [] [] (Is (.b true)):=by
 refine Ev.mono k5 fun r hr=>?_
 obtain⟨x,hx,hr⟩:=hr
 rw[List.mem_singleton]at hx
 subst hx
 exact⟨_,_,hr,rfl,rfl⟩
