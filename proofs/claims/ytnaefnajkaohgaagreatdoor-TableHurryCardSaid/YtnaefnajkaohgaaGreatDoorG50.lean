/- Part 50 of TableHurry. -/
import Derived.Test.YtnaefnajkaohgaaGreatDoorG46
set_option linter.all false
namespace Go.Proofs.YtnaefnajkaohgaaGreatDoor
open Go.ChangeShapes Go.WideShapes Go.ChangeAt Go.RowKit Go.AL
set_option maxRecDepth 100000
theorem Tb:V fun P f fn s c=>(c.recurses == P.recurses f):=vk (by kernel_rfl)
theorem Tc:V fun P f fn s c=>(c.named == P.varsNamed f):=vk (by kernel_rfl)
