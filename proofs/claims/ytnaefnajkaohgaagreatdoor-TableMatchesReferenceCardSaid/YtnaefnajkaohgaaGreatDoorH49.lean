/- 49 -/
import Derived.Test.YtnaefnajkaohgaaGreatDoorH47
set_option linter.all false
namespace Go.Proofs.YtnaefnajkaohgaaGreatDoor
open Go.ChangeShapes Go.WideShapes Go.ChangeAt Go.RowKit Go.AL
set_option maxRecDepth 100000
def j0:V fun P f fn s c=>c.wf (OpenSpec.ofChange s):=vk (by kernel_rfl)
def j1:V fun P f fn s c=>laidOutB P:=vk (by kernel_rfl)
def j2:V fun P f fn s c=>mapsRowed P:=vk (by kernel_rfl)
def j3:V fun P f fn s c=>fn.params.all (P.readableRec ·):=vk (by kernel_rfl)
def j4:V fun P f fn s c=>namedTie P c.named s.vars:=vk (by kernel_rfl)
def j5:V fun P f fn s c=>(c.stops == []):=vk (by kernel_rfl)
def j6:V fun P f fn s c=>(P.stops == []):=vk (by kernel_rfl)
def j7:V fun P f fn s c=>(c.knobs == []):=vk (by kernel_rfl)
def j8:V fun P f fn s c=>(P.stopKnobs == []):=vk (by kernel_rfl)
def Zw:V fun P f fn s c=>(c.maps == (fn.params.toList ++ s.plain.varTypes P).any (P.mapsRec ·)):=vk (by kernel_rfl)
def Zx:V fun P f fn s c=>(c.ifaces == (fn.params.toList ++ s.plain.varTypes P).any (P.ifacesRec ·)):=vk (by kernel_rfl)
def Zy:V fun P f fn s c=>(c.mapsOut == P.mapsAmong fn.resultTypes.toList):=vk (by kernel_rfl)
def Zz:V fun P f fn s c=>(c.loops == (fn.params.toList ++ s.plain.varTypes P).any (P.loopsFrom ·)):=vk (by kernel_rfl)
def ZA:V fun P f fn s c=>(c.wideKeys == (fn.params.toList ++ s.plain.varTypes P ++ fn.resultTypes.toList).any (P.wideKeysFrom ·)):=vk (by kernel_rfl)
def ZB:V fun P f fn s c=>s.vars.all (P.varReadable ·):=vk (by kernel_rfl)
def ZC:V fun P f fn s c=>fn.resultTypes.all (fun t => P.readableRec t && decide (t < P.types.size)):=vk (by kernel_rfl)
def ZD:V fun P f fn s c=>(c.ifacesOut == fn.resultTypes.toList.any (P.ifacesRec ·)):=vk (by kernel_rfl)
def ZE:V fun P f fn s c=>(c.loopsOut == fn.resultTypes.toList.any (P.loopsFrom ·)):=vk (by kernel_rfl)
def ZG:V fun P f fn s c=>(c.plainKeys == P.plainKeys):=vk (by kernel_rfl)
def ZH:V fun P f fn s c=>c.shortTexts.isNone:=vk (by kernel_rfl)
def ZJ:V fun P f fn s c=>P.stopsHeard:=vk (by kernel_rfl)
def ZN:V fun P f fn s c=>(c.kinds == (if c.domain.isEmpty then [] else fn.params.toList.map fun t => match P.underlying t with | some (.int k) => some k | _ => none)):=vk (by kernel_rfl)
def ZO:V fun P f fn s c=>(c.pinned == c.pinnedBy):=vk (by kernel_rfl)
def ZP:V fun P f fn s c=>(c.veiled == (fn.params.toList ++ s.plain.varTypes P ++ fn.resultTypes.toList).any (P.veiledRec ·)):=vk (by kernel_rfl)
def ZQ:V fun P f fn s c=>c.veiledFits P fn.params.toList (fn.params.toList ++ s.plain.varTypes P ++ fn.resultTypes.toList):=vk (by kernel_rfl)
