/- Part 49 of DisputeMatchesReference. -/
import Derived.Test.YtmehofoficaelaaGreatDoorM47
set_option linter.all false
namespace Go.Proofs.YtmehofoficaelaaGreatDoor
open Go.ChangeShapes Go.WideShapes Go.ChangeAt Go.RowKit Go.AL
set_option maxRecDepth 100000
def j0:V λP f fn s c=>c.wf (OpenSpec.ofChange s):=vk gw
def j1:V λP f fn s c=>laidOutB P:=vk gw
def j2:V λP f fn s c=>mapsRowed P:=vk gw
def j3:V λP f fn s c=>fn.params.all (P.readableRec ·):=vk gw
def j4:V λP f fn s c=>namedTie P c.named s.vars:=vk gw
def j5:V λP f fn s c=>(c.stops == []):=vk gw
def j6:V λP f fn s c=>(P.stops == []):=vk gw
def j7:V λP f fn s c=>(c.knobs == []):=vk gw
def j8:V λP f fn s c=>(P.stopKnobs == []):=vk gw
def j13:V λP f fn s c=>(c.maps == (fn.params.toList ++ s.plain.varTypes P).any (P.mapsRec ·)):=vk gw
def j14:V λP f fn s c=>(c.ifaces == (fn.params.toList ++ s.plain.varTypes P).any (P.ifacesRec ·)):=vk gw
def j15:V λP f fn s c=>(c.mapsOut == P.mapsAmong fn.resultTypes.toList):=vk gw
def j16:V λP f fn s c=>(c.loops == (fn.params.toList ++ s.plain.varTypes P).any (P.loopsFrom ·)):=vk gw
def j17:V λP f fn s c=>(c.wideKeys == (fn.params.toList ++ s.plain.varTypes P ++ fn.resultTypes.toList).any (P.wideKeysFrom ·)):=vk gw
def j18:V λP f fn s c=>s.vars.all (P.varReadable ·):=vk gw
def j19:V λP f fn s c=>fn.resultTypes.all (λt => P.readableRec t && decide (t < P.types.size)):=vk gw
def j20:V λP f fn s c=>(c.ifacesOut == fn.resultTypes.toList.any (P.ifacesRec ·)):=vk gw
def j21:V λP f fn s c=>(c.loopsOut == fn.resultTypes.toList.any (P.loopsFrom ·)):=vk gw
def j22:V λP f fn s c=>(c.plainKeys == P.plainKeys):=vk gw
def j23:V λP f fn s c=>c.shortTexts.isNone:=vk gw
def j24:V λP f fn s c=>P.stopsHeard:=vk gw
def j28:V λP f fn s c=>(c.kinds == (if c.domain.isEmpty then [] else fn.params.toList.map λt => match P.underlying t with | some (.int k) => some k | _ => none)):=vk gw
def j29:V λP f fn s c=>(c.pinned == c.pinnedBy):=vk gw
def j30:V λP f fn s c=>(c.veiled == (fn.params.toList ++ s.plain.varTypes P ++ fn.resultTypes.toList).any (P.veiledRec ·)):=vk gw
def j31:V λP f fn s c=>c.veiledFits P fn.params.toList (fn.params.toList ++ s.plain.varTypes P ++ fn.resultTypes.toList):=vk gw
