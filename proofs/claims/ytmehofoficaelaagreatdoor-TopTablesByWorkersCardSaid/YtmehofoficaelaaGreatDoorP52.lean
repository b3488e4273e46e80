/- 52 -/
import Derived.Test.YtmehofoficaelaaGreatDoorP47
set_option linter.all false
namespace Go.Proofs.YtmehofoficaelaaGreatDoor
open Go.ChangeShapes Go.WideShapes Go.ChangeAt Go.RowKit Go.AL
set_option maxRecDepth 100000
def j25:V λP f fn s c=>P.mayEnter:=vk ia
def j26:V λP f fn s c=>(c.lifted == P.liftsFinal):=vk ia
def j27:V λP f fn s c=>(P.make == some c.make):=vk ia
