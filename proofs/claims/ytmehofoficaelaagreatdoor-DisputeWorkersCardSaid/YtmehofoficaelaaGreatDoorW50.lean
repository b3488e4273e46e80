/- Part 50 of DisputeWorkers. -/
import Derived.Test.YtmehofoficaelaaGreatDoorW47
set_option linter.all false
namespace Go.Proofs.YtmehofoficaelaaGreatDoor
open Go.ChangeShapes Go.WideShapes Go.ChangeAt Go.RowKit Go.AL
set_option maxRecDepth 100000
theorem j9:V λP f fn s c=>(c.inPlace == P.inPlace f):=vk (by kernel_rfl)
theorem j10:V λP f fn s c=>(c.unfollowed == P.unfollowed f):=vk (by kernel_rfl)
