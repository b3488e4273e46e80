/- Part 49 of TableHurry. -/
import Derived.Test.YtnaefnajkaohgaaGreatDoorG46
set_option linter.all false
namespace Go.Proofs.YtnaefnajkaohgaaGreatDoor
open Go.ChangeShapes Go.WideShapes Go.ChangeAt Go.RowKit Go.AL
set_option maxRecDepth 100000
theorem j9:V fun P f fn s c=>(c.inPlace == P.inPlace f):=vk (by kernel_rfl)
theorem Ta:V fun P f fn s c=>(c.unfollowed == P.unfollowed f):=vk (by kernel_rfl)
