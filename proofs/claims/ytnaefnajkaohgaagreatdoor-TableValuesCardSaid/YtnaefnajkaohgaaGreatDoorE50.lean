/- Part 50 of the proof of skewer.skewerlaw15.TableValues. -/
import Derived.Test.YtnaefnajkaohgaaGreatDoorE46
set_option linter.all false
namespace Go.Proofs.YtnaefnajkaohgaaGreatDoor
open Go.ChangeShapes Go.WideShapes Go.ChangeAt Go.RowKit Go.AL
set_option maxRecDepth 100000
theorem W2:V fun P f fn s c=>(c.recurses == P.recurses f):=vk (by kernel_rfl)
theorem W3:V fun P f fn s c=>(c.named == P.varsNamed f):=vk (by kernel_rfl)
