/- Part 48 of the proof of skewer.skewerlaw15.TableZero. -/
import Derived.Test.YtnaefnajkaohgaaGreatDoorF45
set_option linter.all false
namespace Go.Proofs.YtnaefnajkaohgaaGreatDoor
open Go.ChangeShapes Go.WideShapes Go.ChangeAt Go.RowKit Go.AL
set_option maxRecDepth 100000
theorem j9:V fun P f fn s c=>(c.inPlace == P.inPlace f):=vk (by kernel_rfl)
theorem SM:V fun P f fn s c=>(c.unfollowed == P.unfollowed f):=vk (by kernel_rfl)
