/- Part 52 of DisputeLocal. -/
import Derived.Test.YtmehofoficaelaaGreatDoorL47
set_option linter.all false
namespace Go.Proofs.YtmehofoficaelaaGreatDoor
open Go.ChangeShapes Go.WideShapes Go.ChangeAt Go.RowKit Go.AL
set_option maxRecDepth 100000
def Zq:V fun P f fn s c=>P.mayEnter:=vk (by kernel_rfl)
def Zr:V fun P f fn s c=>(c.lifted == P.liftsFinal):=vk (by kernel_rfl)
def Zs:V fun P f fn s c=>(P.make == some c.make):=vk (by kernel_rfl)
