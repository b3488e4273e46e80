/- Part 52 of the proof of skewer.skewerlaw15.TableSlices. -/
import Derived.Test.YtnaefnajkaohgaaGreatDoorC47
set_option linter.all false
namespace Go.Proofs.YtnaefnajkaohgaaGreatDoor
open Go.ChangeShapes Go.WideShapes Go.ChangeAt Go.RowKit Go.AL
set_option maxRecDepth 100000
theorem j25:V fun P f fn s c=>P.mayEnter:=vk (by kernel_rfl)
theorem j26:V fun P f fn s c=>(c.lifted == P.liftsFinal):=vk (by kernel_rfl)
theorem j27:V fun P f fn s c=>(P.make == some c.make):=vk (by kernel_rfl)
end Go.Proofs.YtnaefnajkaohgaaGreatDoor
