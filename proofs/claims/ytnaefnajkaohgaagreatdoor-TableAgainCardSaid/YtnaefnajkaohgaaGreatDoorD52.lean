/- Part 52 of the proof of skewer.skewerlaw15.TableAgain. -/
import Derived.Test.YtnaefnajkaohgaaGreatDoorD47
set_option linter.all false
namespace Go.Proofs.YtnaefnajkaohgaaGreatDoor
open Go.ChangeShapes Go.WideShapes Go.ChangeAt Go.RowKit Go.AL
set_option maxRecDepth 100000
theorem VX:V fun P f fn s c=>P.mayEnter:=vk (by kernel_rfl)
theorem VY:V fun P f fn s c=>(c.lifted == P.liftsFinal):=vk (by kernel_rfl)
theorem VZ:V fun P f fn s c=>(P.make == some c.make):=vk (by kernel_rfl)
