/- Part 28 of DisputeWorkers. -/
import Derived.Test.YtmehofoficaelaaGreatDoorW08
set_option linter.all false
namespace Go.Proofs.YtmehofoficaelaaGreatDoor
open Go Go.AL Tryz
def hX:IR->List (List Nat)
 | .seq a b=>hX a++hX b
 | .cond _ a b=>hX a++hX b
 | .block _ l a=>l::hX a
 | .loop l a=>l::hX a
 | .oB _ l _=>[l]
 | _=>[]
abbrev OK:=FD Tryz.prog (gl Tryz.prog)
theorem fk{f:FuncId}{func:Func}(fn:jw)(h1:Tryz.prog.funcs[f]? = some func)(g:func.body=some (FY func):=by kernel_rfl)(e:s5 Tryz.prog f=true:=by kernel_rfl)(d:Nat.ble (nY (FY func)).length 64=true:=by kernel_rfl)
  (c:cC Tryz.prog (gl Tryz.prog) fn.ntmps (64*f) (hX fn.body) (FY func)=some (fn.body,[]):=by kernel_rfl) (b:func.ntmps=fn.ntmps:=by kernel_rfl) (a:A0 Tryz.prog func.results.toList=some fn.results:=by kernel_rfl):OK f fn:=ae9 h1 g e (cZ d) c b a
def ahS:=fk T1 func8
def ahU:=fk Jl func11
def ajb:=fk J1 func13
def akS:=fk Li func17
def ahV:=fk Jm func18
def ahW:=fk Jn func19
def ahY:=fk Jp func20
def ahZ:=fk CW func21
def ah0:=fk CX func22
def ah1:=fk T2 func24
def ajQ:=fk Kt func25
def ah2:=fk T5 func28
def ah3:=fk T6 func29
def ah5:=fk T7 func30
def ah6:=fk T8 func32
def ah7:=fk CY func33
def ah8:=fk T9 func35
def ah9:=fk T' func37
def aln:=fk Fy func39
def akZ:=fk Lo func40
def aib:=fk y6 func41
def alj:=fk LG func42
def aic:=fk CZ func43
def aid:=fk Js func44
def aie:=fk wE func48
def aif:=fk y7 func49
def alk:=fk Fw func50
def alm:=fk Fx func51
def alx:=fk Fz func56
def aly:=fk LP func58
def aij:=fk Ju func60
def aik:=fk Jv func61
def ail:=fk Jw func62
def aim:=fk Fi func63
def ain:=fk Jx func64
def aio:=fk Jy func65
def aip:=fk Ua func66
def aj8:=fk KG func67
def aiq:=fk C0 func68
def air:=fk Jz func69
def ait:=fk Ub func70
def alo:=fk LI func71
def alp:=fk LK func72
