/- Part 28 of DisputeTruth. -/
import Derived.Test.YtmehofoficaelaaGreatDoorV08
set_option linter.all false
namespace Go.Proofs.YtmehofoficaelaaGreatDoor
open Go Go.AL Tryz
def hX:IR->List (List Nat)
 | .seq a b=>hX a++hX b
 | .cond _ a b=>hX a++hX b
 | .block _ l a=>l::hX a
 | .loop l a=>l::hX a
 | .nW _ l _=>[l]
 | _=>[]
abbrev OK:=E6 Tryz.prog (gl Tryz.prog)
theorem fk{f:FuncId}{func:Func}(fn:je)(h1:Tryz.prog.funcs[f]? = some func)(g:func.body=some (Ft func):=by kernel_rfl)(e:sF Tryz.prog f=true:=by kernel_rfl)(d:Nat.ble (nJ (Ft func)).length 64=true:=by kernel_rfl)
  (c:cC Tryz.prog (gl Tryz.prog) fn.ntmps (64*f) (hX fn.body) (Ft func)=some (fn.body,[]):=by kernel_rfl) (b:func.ntmps=fn.ntmps:=by kernel_rfl) (a:Ax Tryz.prog func.results.toList=some fn.results:=by kernel_rfl):OK f fn:=aeG h1 g e (cW d) c b a
def ahm:=fk EL func6
def ahn:=fk TF func8
def aiA:=fk Js func13
def ake:=fk KB func17
def ahp:=fk IP func18
def ahr:=fk IS func20
def ahs:=fk IT func21
def aht:=fk Co func22
def ahu:=fk TG func24
def ajc:=fk JT func25
def ahv:=fk IU func26
def ahw:=fk IV func27
def ahx:=fk IW func28
def ahy:=fk TH func29
def ahA:=fk TI func30
def ahB:=fk TJ func32
def ahC:=fk Cp func33
def ahD:=fk TK func35
def ahE:=fk TL func37
def akI:=fk EZ func39
def akl:=fk KH func40
def ahG:=fk yD func41
def akF:=fk K1 func42
def ahH:=fk IZ func44
def ahI:=fk vW func48
def ahJ:=fk yE func49
def akG:=fk EX func50
def akH:=fk EY func51
def akR:=fk E0 func56
def akS:=fk K7 func58
def ahM:=fk I1 func60
def ahN:=fk EN func63
def ahO:=fk I2 func64
def ahP:=fk I3 func65
def ahQ:=fk TM func66
def aju:=fk J5 func67
def ahR:=fk Cq func68
def ahS:=fk I4 func69
def ahU:=fk TN func70
def akJ:=fk K2 func71
def akK:=fk K3 func72
def ahV:=fk vX func73
