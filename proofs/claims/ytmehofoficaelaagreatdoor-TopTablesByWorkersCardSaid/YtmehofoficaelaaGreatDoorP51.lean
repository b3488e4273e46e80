/- 51 -/
import Derived.Test.YtmehofoficaelaaGreatDoorP47
set_option linter.all false
namespace Go.Proofs.YtmehofoficaelaaGreatDoor
open Go.ChangeShapes Go.WideShapes Go.ChangeAt Go.RowKit Go.AL
set_option maxRecDepth 100000
def j11:V λP f fn s c=>(c.recurses == P.recurses f):=vk ia
def j12:V λP f fn s c=>(c.named == P.varsNamed f):=vk ia
