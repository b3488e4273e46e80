/- Part 52 of DisputeWorkers. -/
import Derived.Test.YtmehofoficaelaaGreatDoorW47
set_option linter.all false
namespace Go.Proofs.YtmehofoficaelaaGreatDoor
open Go.ChangeShapes Go.WideShapes Go.ChangeAt Go.RowKit Go.AL
set_option maxRecDepth 100000
theorem j25:V λP f fn s c=>P.mayEnter:=vk (by kernel_rfl)
theorem j26:V λP f fn s c=>(c.lifted == P.liftsFinal):=vk (by kernel_rfl)
theorem j27:V λP f fn s c=>(P.make == some c.make):=vk (by kernel_rfl)
