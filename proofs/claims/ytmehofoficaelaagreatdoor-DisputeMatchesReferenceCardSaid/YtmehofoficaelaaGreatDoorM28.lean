/- Part 28 of DisputeMatchesReference. -/
import Derived.Test.YtmehofoficaelaaGreatDoorM08
set_option linter.all false
namespace Go.Proofs.YtmehofoficaelaaGreatDoor
open Go Go.AL Tryz
def hX:IR->List (List Nat)
 | .seq a b=>hX a++hX b
 | .cond _ a b=>hX a++hX b
 | .block _ l a=>l::hX a
 | .loop l a=>l::hX a
 | .po _ l _=>[l]
 | _=>[]
abbrev OK:=G0 Tryz.prog (gl Tryz.prog)
def fk{f:FuncId}{func:Func}(fn:jK)(h1:Tryz.prog.funcs[f]? = some func)(g:func.body=some (Ho func):=by kernel_rfl)(e:uu Tryz.prog f=true:=by kernel_rfl)(d:Nat.ble (oZ (Ho func)).length 64=true:=by kernel_rfl)
  (c:cC Tryz.prog (gl Tryz.prog) fn.ntmps (64*f) (hX fn.body) (Ho func)=some (fn.body,[]):=by kernel_rfl) (b:func.ntmps=fn.ntmps:=by kernel_rfl) (a:Cc Tryz.prog func.results.toList=some fn.results:=by kernel_rfl):OK f fn:=agM h1 g e (dm d) c b a
def ajo:=fk GC func4
def ajp:=fk Vo func8
def akJ:=fk Lg func13
def ajr:=fk Ko func18
def ajt:=fk Kq func20
def aju:=fk Vp func24
def alm:=fk LN func25
def ajv:=fk Kr func26
def ajw:=fk Kt func27
def ajx:=fk Ku func28
def ajy:=fk Ab func29
def ajA:=fk Ac func30
def ajB:=fk Kw func31
def ajC:=fk Ad func32
def ajD:=fk D4 func33
def ajE:=fk GD func34
def ajF:=fk Kx func35
def ajG:=fk Ky func36
def ajH:=fk Ae func37
def ajI:=fk Af func38
def amS:=fk GV func39
def amv:=fk ME func40
def ajK:=fk Ag func41
def amP:=fk MU func42
def ajL:=fk KA func44
def ajM:=fk xT func48
def ajN:=fk Ah func49
def amQ:=fk GR func50
def amR:=fk GU func51
def am1:=fk GX func56
def am2:=fk M0 func58
def ajQ:=fk KD func60
def ajR:=fk Ai func63
def ajS:=fk KE func64
def ajT:=fk KF func65
def ajU:=fk Vq func66
def alF:=fk L4 func67
def ajV:=fk D5 func68
def ajW:=fk KG func69
def ajY:=fk Vr func70
def amT:=fk MV func71
def amU:=fk MW func72
def ajZ:=fk xU func73
