/- Part 50 of the proof of skewer.skewerlaw15.TableZero. -/
import Derived.Test.YtnaefnajkaohgaaGreatDoorF45
set_option linter.all false
namespace Go.Proofs.YtnaefnajkaohgaaGreatDoor
open Go.ChangeShapes Go.WideShapes Go.ChangeAt Go.RowKit Go.AL
set_option maxRecDepth 100000
theorem S4:V fun P f fn s c=>P.mayEnter:=vk (by kernel_rfl)
theorem S5:V fun P f fn s c=>(c.lifted == P.liftsFinal):=vk (by kernel_rfl)
theorem S6:V fun P f fn s c=>(P.make == some c.make):=vk (by kernel_rfl)
