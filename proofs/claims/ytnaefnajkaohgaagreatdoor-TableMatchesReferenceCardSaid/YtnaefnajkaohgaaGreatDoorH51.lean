/- 51 -/
import Derived.Test.YtnaefnajkaohgaaGreatDoorH47
set_option linter.all false
namespace Go.Proofs.YtnaefnajkaohgaaGreatDoor
open Go.ChangeShapes Go.WideShapes Go.ChangeAt Go.RowKit Go.AL
set_option maxRecDepth 100000
def Zu:V fun P f fn s c=>(c.recurses == P.recurses f):=vk (by kernel_rfl)
def Zv:V fun P f fn s c=>(c.named == P.varsNamed f):=vk (by kernel_rfl)
