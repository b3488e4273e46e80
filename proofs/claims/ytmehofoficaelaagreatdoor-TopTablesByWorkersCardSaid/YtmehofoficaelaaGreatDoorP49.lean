/- 49 -/
import Derived.Test.YtmehofoficaelaaGreatDoorP47
set_option linter.all false
namespace Go.Proofs.YtmehofoficaelaaGreatDoor
open Go.ChangeShapes Go.WideShapes Go.ChangeAt Go.RowKit Go.AL
set_option maxRecDepth 100000
def j0:V λP f fn s c=>c.wf (OpenSpec.ofChange s):=vk ia
def j1:V λP f fn s c=>laidOutB P:=vk ia
def j2:V λP f fn s c=>mapsRowed P:=vk ia
def j3:V λP f fn s c=>fn.params.all (P.readableRec ·):=vk ia
def j4:V λP f fn s c=>namedTie P c.named s.vars:=vk ia
def j5:V λP f fn s c=>(c.stops == []):=vk ia
def j6:V λP f fn s c=>(P.stops == []):=vk ia
def j7:V λP f fn s c=>(c.knobs == []):=vk ia
def j8:V λP f fn s c=>(P.stopKnobs == []):=vk ia
def j13:V λP f fn s c=>(c.maps == (fn.params.toList ++ s.plain.varTypes P).any (P.mapsRec ·)):=vk ia
def j14:V λP f fn s c=>(c.ifaces == (fn.params.toList ++ s.plain.varTypes P).any (P.ifacesRec ·)):=vk ia
def j15:V λP f fn s c=>(c.mapsOut == P.mapsAmong fn.resultTypes.toList):=vk ia
def j16:V λP f fn s c=>(c.loops == (fn.params.toList ++ s.plain.varTypes P).any (P.loopsFrom ·)):=vk ia
def j17:V λP f fn s c=>(c.wideKeys == (fn.params.toList ++ s.plain.varTypes P ++ fn.resultTypes.toList).any (P.wideKeysFrom ·)):=vk ia
def j18:V λP f fn s c=>s.vars.all (P.varReadable ·):=vk ia
def j19:V λP f fn s c=>fn.resultTypes.all (λt => P.readableRec t && decide (t < P.types.size)):=vk ia
def j20:V λP f fn s c=>(c.ifacesOut == fn.resultTypes.toList.any (P.ifacesRec ·)):=vk ia
def j21:V λP f fn s c=>(c.loopsOut == fn.resultTypes.toList.any (P.loopsFrom ·)):=vk ia
def j22:V λP f fn s c=>(c.plainKeys == P.plainKeys):=vk ia
def j23:V λP f fn s c=>c.shortTexts.isNone:=vk ia
def j24:V λP f fn s c=>P.stopsHeard:=vk ia
def j28:V λP f fn s c=>(c.kinds == (if c.domain.isEmpty then [] else fn.params.toList.map λt => match P.underlying t with | some (.int k) => some k | _ => none)):=vk ia
def j29:V λP f fn s c=>(c.pinned == c.pinnedBy):=vk ia
def j30:V λP f fn s c=>(c.veiled == (fn.params.toList ++ s.plain.varTypes P ++ fn.resultTypes.toList).any (P.veiledRec ·)):=vk ia
def j31:V λP f fn s c=>c.veiledFits P fn.params.toList (fn.params.toList ++ s.plain.varTypes P ++ fn.resultTypes.toList):=vk ia
