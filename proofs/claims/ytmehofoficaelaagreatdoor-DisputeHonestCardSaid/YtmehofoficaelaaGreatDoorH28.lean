/- Part 28 of DisputeHonest. -/
import Derived.Test.YtmehofoficaelaaGreatDoorH08
set_option linter.all false
namespace Go.Proofs.YtmehofoficaelaaGreatDoor
open Go Go.AL Tryz
def hX:IR->List (List Nat)
 | .seq a b=>hX a++hX b
 | .cond _ a b=>hX a++hX b
 | .block _ l a=>l::hX a
 | .loop l a=>l::hX a
 | .mZ _ l _=>[l]
 | _=>[]
abbrev OK:=Dq Tryz.prog (gl Tryz.prog)
theorem fk{f:FuncId}{func:Func}(fn:iE)(h1:Tryz.prog.funcs[f]? = some func)(g:func.body=some (DH func):=by kernel_rfl)(e:rz Tryz.prog f=true:=by kernel_rfl)(d:Nat.ble (mK (DH func)).length 64=true:=by kernel_rfl)
  (c:cC Tryz.prog (gl Tryz.prog) fn.ntmps (64*f) (hX fn.body) (DH func)=some (fn.body,[]):=by kernel_rfl) (b:func.ntmps=fn.ntmps:=by kernel_rfl) (a:za Tryz.prog func.results.toList=some fn.results:=by kernel_rfl):OK f fn:=abV h1 g e (cN d) c b a
def aez:=fk C7 func5
def aeA:=fk Re func8
def afH:=fk Hs func13
def aeC:=fk GL func18
def aeE:=fk Rf func20
def aeF:=fk A5 func22
def aeG:=fk Rg func24
def agk:=fk HU func25
def aeH:=fk GN func26
def aeI:=fk GO func28
def aeJ:=fk Rh func29
def aeL:=fk xl func30
def aeM:=fk Ri func32
def aeN:=fk Rj func33
def aeO:=fk Rk func35
def aeP:=fk Rl func37
def ahP:=fk Dj func39
def ahs:=fk IS func40
def aeR:=fk xm func41
def ahM:=fk RP func42
def aeS:=fk GU func44
def aeT:=fk uM func48
def aeU:=fk xn func49
def ahN:=fk Dh func50
def ahO:=fk Di func51
def ahY:=fk Dk func56
def ahZ:=fk Jb func58
def aeX:=fk GX func60
def aeY:=fk C9 func63
def aeZ:=fk GY func64
def agC:=fk Ib func67
def ae0:=fk GZ func69
def ae2:=fk Rm func70
def ahQ:=fk I7 func71
def ahR:=fk I8 func72
def ae3:=fk uN func73
