/- Part 33 of DisputeLocal. -/
import Derived.Test.YtmehofoficaelaaGreatDoorProg
import Derived.Test.YtmehofoficaelaaGreatDoorL08
set_option linter.all false
namespace Go.Proofs.YtmehofoficaelaaGreatDoor
open Go Go.AL Tryz
def hX:IR→List (List Nat)
 | .seq a b=>hX a++hX b
 | .cond _ a b=>hX a++hX b
 | .block _ l a=>l::hX a
 | .loop l a=>l::hX a
 | .lZ _ l _=>[l]
 | _=>[]
abbrev OK:=AZ Tryz.prog (gl Tryz.prog)
def fk{f:FuncId}{func:Func}(fn:eV)(h1:Tryz.prog.funcs[f]? = some func)(h2:func.body=some (Ju func):=by kernel_rfl)(h3:p8 Tryz.prog f=true:=by kernel_rfl)(h4:Nat.ble (nu (Ju func)).length 64=true:=by kernel_rfl)
  (h5:cC Tryz.prog (gl Tryz.prog) fn.ntmps (64*f) (hX fn.body) (Ju func)=some (fn.body,[]):=by kernel_rfl) (h6:func.ntmps=fn.ntmps:=by kernel_rfl) (h7:wY Tryz.prog func.results.toList=some fn.results:=by kernel_rfl):OK f fn:=WE h1 h2 h3 (cE h4) h5 h6 h7
def aaw:=fk DI func8
def abu:=fk D5 func13
def aaz:=fk Ni func20
def aaA:=fk Nj func24
def ab6:=fk EC func25
def aaB:=fk Nk func28
def aaC:=fk Nl func29
def aaE:=fk Nn func30
def aaF:=fk No func32
def aaG:=fk Np func33
def aaH:=fk Nq func35
def aaI:=fk DM func37
def adG:=fk AU func39
def adj:=fk Ft func40
def aaK:=fk DO func41
def adD:=fk FJ func42
def aaL:=fk Nr func48
def aaM:=fk DP func49
def adE:=fk AS func50
def adF:=fk AT func51
def adP:=fk AV func56
def adQ:=fk FP func58
def aaP:=fk Ns func63
def aaQ:=fk Nt func64
def acq:=fk NU func67
def aaS:=fk Nu func70
def adH:=fk FK func71
def adI:=fk FL func72
