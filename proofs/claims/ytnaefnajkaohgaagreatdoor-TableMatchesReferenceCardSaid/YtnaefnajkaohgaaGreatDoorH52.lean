/- 52 -/
import Derived.Test.YtnaefnajkaohgaaGreatDoorH47
set_option linter.all false
namespace Go.Proofs.YtnaefnajkaohgaaGreatDoor
open Go.ChangeShapes Go.WideShapes Go.ChangeAt Go.RowKit Go.AL
set_option maxRecDepth 100000
def ZK:V fun P f fn s c=>P.mayEnter:=vk (by kernel_rfl)
def ZL:V fun P f fn s c=>(c.lifted == P.liftsFinal):=vk (by kernel_rfl)
def ZM:V fun P f fn s c=>(P.make == some c.make):=vk (by kernel_rfl)
