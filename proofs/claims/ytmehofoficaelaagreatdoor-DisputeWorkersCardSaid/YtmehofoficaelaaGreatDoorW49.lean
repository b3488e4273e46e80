/- Part 49 of DisputeWorkers. -/
import Derived.Test.YtmehofoficaelaaGreatDoorW47
set_option linter.all false
namespace Go.Proofs.YtmehofoficaelaaGreatDoor
open Go.ChangeShapes Go.WideShapes Go.ChangeAt Go.RowKit Go.AL
set_option maxRecDepth 100000
theorem j0:V λP f fn s c=>c.wf (OpenSpec.ofChange s):=vk (by kernel_rfl)
theorem j1:V λP f fn s c=>laidOutB P:=vk (by kernel_rfl)
theorem j2:V λP f fn s c=>mapsRowed P:=vk (by kernel_rfl)
theorem j3:V λP f fn s c=>fn.params.all (P.readableRec ·):=vk (by kernel_rfl)
theorem j4:V λP f fn s c=>namedTie P c.named s.vars:=vk (by kernel_rfl)
theorem j5:V λP f fn s c=>(c.stops == []):=vk (by kernel_rfl)
theorem j6:V λP f fn s c=>(P.stops == []):=vk (by kernel_rfl)
theorem j7:V λP f fn s c=>(c.knobs == []):=vk (by kernel_rfl)
theorem j8:V λP f fn s c=>(P.stopKnobs == []):=vk (by kernel_rfl)
theorem j13:V λP f fn s c=>(c.maps == (fn.params.toList ++ s.plain.varTypes P).any (P.mapsRec ·)):=vk (by kernel_rfl)
theorem j14:V λP f fn s c=>(c.ifaces == (fn.params.toList ++ s.plain.varTypes P).any (P.ifacesRec ·)):=vk (by kernel_rfl)
theorem j15:V λP f fn s c=>(c.mapsOut == P.mapsAmong fn.resultTypes.toList):=vk (by kernel_rfl)
theorem j16:V λP f fn s c=>(c.loops == (fn.params.toList ++ s.plain.varTypes P).any (P.loopsFrom ·)):=vk (by kernel_rfl)
theorem j17:V λP f fn s c=>(c.wideKeys == (fn.params.toList ++ s.plain.varTypes P ++ fn.resultTypes.toList).any (P.wideKeysFrom ·)):=vk (by kernel_rfl)
theorem j18:V λP f fn s c=>s.vars.all (P.varReadable ·):=vk (by kernel_rfl)
theorem j19:V λP f fn s c=>fn.resultTypes.all (λt => P.readableRec t && decide (t < P.types.size)):=vk (by kernel_rfl)
theorem j20:V λP f fn s c=>(c.ifacesOut == fn.resultTypes.toList.any (P.ifacesRec ·)):=vk (by kernel_rfl)
theorem j21:V λP f fn s c=>(c.loopsOut == fn.resultTypes.toList.any (P.loopsFrom ·)):=vk (by kernel_rfl)
theorem j22:V λP f fn s c=>(c.plainKeys == P.plainKeys):=vk (by kernel_rfl)
theorem j23:V λP f fn s c=>c.shortTexts.isNone:=vk (by kernel_rfl)
theorem j24:V λP f fn s c=>P.stopsHeard:=vk (by kernel_rfl)
theorem j28:V λP f fn s c=>(c.kinds == (if c.domain.isEmpty then [] else fn.params.toList.map λt => match P.underlying t with | some (.int k) => some k | _ => none)):=vk (by kernel_rfl)
theorem j29:V λP f fn s c=>(c.pinned == c.pinnedBy):=vk (by kernel_rfl)
theorem j30:V λP f fn s c=>(c.veiled == (fn.params.toList ++ s.plain.varTypes P ++ fn.resultTypes.toList).any (P.veiledRec ·)):=vk (by kernel_rfl)
theorem j31:V λP f fn s c=>c.veiledFits P fn.params.toList (fn.params.toList ++ s.plain.varTypes P ++ fn.resultTypes.toList):=vk (by kernel_rfl)
