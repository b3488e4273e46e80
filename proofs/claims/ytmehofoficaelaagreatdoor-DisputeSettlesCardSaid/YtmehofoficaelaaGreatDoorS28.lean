/- Part 28 of DisputeSettles. -/
import Derived.Test.YtmehofoficaelaaGreatDoorS08
set_option linter.all false
namespace Go.Proofs.YtmehofoficaelaaGreatDoor
open Go Go.AL Tryz
def hX:IR->List (List Nat)
 | .seq a b=>hX a++hX b
 | .cond _ a b=>hX a++hX b
 | .block _ l a=>l::hX a
 | .loop l a=>l::hX a
 | .oq _ l _=>[l]
 | _=>[]
abbrev OK:=F1 Tryz.prog (gl Tryz.prog)
def fk{f:FuncId}{func:Func}(fn:jo)(h1:Tryz.prog.funcs[f]? = some func)(g:func.body=some (Gk func):=by kernel_rfl)(e:s5 Tryz.prog f=true:=by kernel_rfl)(d:Nat.ble (nX (Gk func)).length 64=true:=by kernel_rfl)
  (c:cC Tryz.prog (gl Tryz.prog) fn.ntmps (64*f) (hX fn.body) (Gk func)=some (fn.body,[]):=by kernel_rfl) (b:func.ntmps=fn.ntmps:=by kernel_rfl) (a:Bd Tryz.prog func.results.toList=some fn.results:=by kernel_rfl):OK f fn:=af3 h1 g e (db d) c b a
def aiO:=fk UM func8
def aiQ:=fk FG func10
def ajZ:=fk Kr func13
def al2:=fk L8 func16
def alF:=fk LN func17
def aiR:=fk JO func18
def aiT:=fk JR func20
def aiU:=fk Db func22
def aiV:=fk UN func24
def akB:=fk KW func25
def aiW:=fk JS func26
def aiX:=fk JT func27
def aiY:=fk JU func28
def aiZ:=fk UO func29
def ai1:=fk UP func30
def ai2:=fk zg func32
def ai3:=fk Dc func33
def ai4:=fk UQ func35
def ai5:=fk UR func37
def ama:=fk FV func39
def alM:=fk LU func40
def ai7:=fk zh func41
def al7:=fk Md func42
def ai8:=fk JX func44
def ai9:=fk wP func48
def aja:=fk zi func49
def al8:=fk FT func50
def al9:=fk FU func51
def amj:=fk FX func56
def amk:=fk zp func57
def aml:=fk Mj func58
def amm:=fk Mk func59
def ajd:=fk JZ func60
def aje:=fk FJ func63
def ajf:=fk J0 func64
def ajg:=fk J1 func65
def ajh:=fk UT func66
def akT:=fk K9 func67
def aji:=fk J2 func69
def ajk:=fk UU func70
def amb:=fk Me func71
def amc:=fk Mf func72
def ajl:=fk wQ func73
