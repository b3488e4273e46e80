/- 32 -/
import Derived.Test.YtnaefnajkaohgaaGreatDoorProg
import Derived.Test.YtnaefnajkaohgaaGreatDoorH07
set_option linter.all false
namespace Go.Proofs.YtnaefnajkaohgaaGreatDoor
open Go Go.AL Tryz
def hX:IR→List (List Nat)
 | .seq a b=>hX a++hX b
 | .cond _ a b=>hX a++hX b
 | .block _ l a=>l::hX a
 | .loop l a=>l::hX a
 | .l5 _ l _=>[l]
 | _=>[]
abbrev OK:=A1 Tryz.prog (gl Tryz.prog)
def fk{f:FuncId}{func:Func}(fn:eI)(h1:Tryz.prog.funcs[f]? = some func)(h2:func.body=some (JI func):=by kernel_rfl)(h3:qj Tryz.prog f=true:=by kernel_rfl)(h4:Nat.ble (nq (JI func)).length 64=true:=by kernel_rfl)
  (h5:cC Tryz.prog (gl Tryz.prog) fn.ntmps (64*f) (hX fn.body) (JI func)=some (fn.body,[]):=by kernel_rfl) (h6:func.ntmps=fn.ntmps:=by kernel_rfl) (h7:w6 Tryz.prog func.results.toList=some fn.results:=by kernel_rfl):OK f fn:=V' h1 h2 h3 (dy h4) h5 h6 h7
def ok3:=fk F3 func3
def aa2:=fk Nk func11
def abf:=fk D0 func12
def abq:=fk D4 func13
def abC:=fk Ed func14
def abN:=fk Eo func15
def abY:=fk AN func16
def ab7:=fk yK func17
def acd:=fk yM func18
def acp:=fk wH func19
def acB:=fk yN func20
def acM:=fk yO func21
def acP:=fk E4 func22
def acW:=fk AR func23
def ac0:=fk yP func24
def ac7:=fk Fe func25
def adh:=fk AS func26
def ado:=fk Ft func27
def adp:=fk Fu func28
def adu:=fk NL func31
def adv:=fk AT func32
def adw:=fk AU func33
def adx:=fk Fz func34
def ady:=fk FA func35
def adz:=fk FB func36
def adA:=fk AV func37
def adB:=fk FC func38
def adC:=fk FD func39
def adD:=fk FE func40
def adE:=fk FF func41
def adF:=fk yS func42
def adG:=fk FG func43
def adH:=fk FH func44
def adI:=fk yT func45
def adJ:=fk yU func46
def adK:=fk FJ func47
def adL:=fk yV func48
def adM:=fk vm func49
def adN:=fk FK func50
def adO:=fk FL func51
def adP:=fk AW func52
def adQ:=fk FM func54
def adR:=fk AX func57
def adS:=fk FN func58
def adT:=fk FO func59
def adU:=fk AY func60
def adV:=fk FP func61
def adW:=fk FQ func62
