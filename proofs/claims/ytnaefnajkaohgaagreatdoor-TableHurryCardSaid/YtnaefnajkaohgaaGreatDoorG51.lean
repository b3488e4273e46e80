/- Part 51 of TableHurry. -/
import Derived.Test.YtnaefnajkaohgaaGreatDoorG46
set_option linter.all false
namespace Go.Proofs.YtnaefnajkaohgaaGreatDoor
open Go.ChangeShapes Go.WideShapes Go.ChangeAt Go.RowKit Go.AL
set_option maxRecDepth 100000
theorem Tp:V fun P f fn s c=>P.mayEnter:=vk (by kernel_rfl)
theorem Tq:V fun P f fn s c=>(c.lifted == P.liftsFinal):=vk (by kernel_rfl)
theorem Tr:V fun P f fn s c=>(P.make == some c.make):=vk (by kernel_rfl)
