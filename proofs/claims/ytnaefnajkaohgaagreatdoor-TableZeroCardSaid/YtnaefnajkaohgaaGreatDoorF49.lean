/- Part 49 of the proof of skewer.skewerlaw15.TableZero. -/
import Derived.Test.YtnaefnajkaohgaaGreatDoorF45
set_option linter.all false
namespace Go.Proofs.YtnaefnajkaohgaaGreatDoor
open Go.ChangeShapes Go.WideShapes Go.ChangeAt Go.RowKit Go.AL
set_option maxRecDepth 100000
theorem SN:V fun P f fn s c=>(c.recurses == P.recurses f):=vk (by kernel_rfl)
theorem SO:V fun P f fn s c=>(c.named == P.varsNamed f):=vk (by kernel_rfl)
