/- 28 -/
import Derived.Test.YtmehofoficaelaaGreatDoorV08
set_option linter.all false
namespace Go.Proofs.YtmehofoficaelaaGreatDoor
open Go Go.AL Tryz
def hX:IR->List (List Nat)
 | .seq a b=>hX a++hX b
 | .cond _ a b=>hX a++hX b
 | .block _ l a=>l::hX a
 | .loop l a=>l::hX a
 | .oD _ l _=>[l]
 | _=>[]
abbrev OK:=FR Tryz.prog (gl Tryz.prog)
def fk{f:FuncId}{func:Func}(fn:jq)(h1:Tryz.prog.funcs[f]? = some func)(g:func.body=some (Ga func):=by kernel_rfl)(e:vq Tryz.prog f=true:=by kernel_rfl)(d:Nat.ble (nZ (Ga func)).length 64=true:=by kernel_rfl)
  (c:cC Tryz.prog (gl Tryz.prog) fn.ntmps (64*f) (hX fn.body) (Ga func)=some (fn.body,[]):=by kernel_rfl) (b:func.ntmps=fn.ntmps:=by kernel_rfl) (a:A7 Tryz.prog func.results.toList=some fn.results:=by kernel_rfl):OK f fn:=aff h1 g e (c8 d) c b a
def ahW:=fk T6 func8
def ahX:=fk Ju func9
def ai4:=fk J4 func13
def ahZ:=fk Jw func18
def ah1:=fk CZ func20
def ah2:=fk T7 func24
def ajG:=fk FB func25
def ah3:=fk Jy func26
def ah4:=fk Fx func28
def ah5:=fk y8 func29
def ah7:=fk wG func30
def ah8:=fk y9 func32
def ah9:=fk za func33
def aia:=fk T8 func35
def aib:=fk wH func37
def alb:=fk FL func39
def akO:=fk Ln func40
def aid:=fk zb func41
def ak8:=fk LF func42
def aie:=fk JB func44
def aif:=fk wI func48
def aih:=fk zc func49
def ak9:=fk FJ func50
def ala:=fk FK func51
def alk:=fk AW func56
def alm:=fk LL func58
def aik:=fk JD func60
def ail:=fk sR func63
def aim:=fk JE func64
def ain:=fk JF func65
def aio:=fk T9 func66
def ajY:=fk KG func67
def aiq:=fk Ua func70
def alc:=fk FM func71
def ald:=fk FN func72
def air:=fk wJ func73
