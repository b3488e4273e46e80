/- Part 45 of the proof of skewer.skewerlaw15.TableAgain. -/
import Derived.Test.YtnaefnajkaohgaaGreatDoorD44
import Derived.Test.YtnaefnajkaohgaaGreatDoorD40
import Derived.Test.YtnaefnajkaohgaaGreatDoorD31
set_option linter.all false
namespace Go.Proofs.YtnaefnajkaohgaaGreatDoor
open Go Go.AL Classical
set_option maxRecDepth 10000
set_option maxHeartbeats 16000000
theorem Ks{n:Int}(h:0≤n∧n<256):IntKind.i64.wrap n=n:=nZ ⟨by omega,by omega⟩
