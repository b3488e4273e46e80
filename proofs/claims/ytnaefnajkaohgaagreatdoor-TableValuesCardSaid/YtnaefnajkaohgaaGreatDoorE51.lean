/- Part 51 of the proof of skewer.skewerlaw15.TableValues. -/
import Derived.Test.YtnaefnajkaohgaaGreatDoorE46
set_option linter.all false
namespace Go.Proofs.YtnaefnajkaohgaaGreatDoor
open Go.ChangeShapes Go.WideShapes Go.ChangeAt Go.RowKit Go.AL
set_option maxRecDepth 100000
theorem Xh:V fun P f fn s c=>P.mayEnter:=vk (by kernel_rfl)
theorem Xi:V fun P f fn s c=>(c.lifted == P.liftsFinal):=vk (by kernel_rfl)
theorem Xj:V fun P f fn s c=>(P.make == some c.make):=vk (by kernel_rfl)
