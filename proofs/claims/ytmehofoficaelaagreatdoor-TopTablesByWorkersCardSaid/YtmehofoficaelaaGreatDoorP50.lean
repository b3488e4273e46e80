/- 50 -/
import Derived.Test.YtmehofoficaelaaGreatDoorP47
set_option linter.all false
namespace Go.Proofs.YtmehofoficaelaaGreatDoor
open Go.ChangeShapes Go.WideShapes Go.ChangeAt Go.RowKit Go.AL
set_option maxRecDepth 100000
def j9:V λP f fn s c=>(c.inPlace == P.inPlace f):=vk ia
def j10:V λP f fn s c=>(c.unfollowed == P.unfollowed f):=vk ia
