/- Part 52 of DisputeSettles. -/
import Derived.Test.YtmehofoficaelaaGreatDoorS47
set_option linter.all false
namespace Go.Proofs.YtmehofoficaelaaGreatDoor
open Go.ChangeShapes Go.WideShapes Go.ChangeAt Go.RowKit Go.AL
set_option maxRecDepth 100000
def j25:V λP f fn s c=>P.mayEnter:=vk (by kernel_rfl)
def j26:V λP f fn s c=>(c.lifted == P.liftsFinal):=vk (by kernel_rfl)
def j27:V λP f fn s c=>(P.make == some c.make):=vk (by kernel_rfl)
