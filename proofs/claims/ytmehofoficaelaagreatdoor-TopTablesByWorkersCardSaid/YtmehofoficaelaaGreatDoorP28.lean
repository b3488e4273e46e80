/- 28 -/
import Derived.Test.YtmehofoficaelaaGreatDoorP08
set_option linter.all false
namespace Go.Proofs.YtmehofoficaelaaGreatDoor
open Go Go.AL Tryz
def hX:IR->List (List Nat)
 | .seq a b=>hX a++hX b
 | .cond _ a b=>hX a++hX b
 | .block _ l a=>l::hX a
 | .loop l a=>l::hX a
 | .qb _ l _=>[l]
 | _=>[]
abbrev OK:=IJ Tryz.prog (gl Tryz.prog)
def fk{f:FuncId}{func:Func}(fn:kn)(h1:Tryz.prog.funcs[f]? = some func)(g:func.body=some (I5 func):=by kernel_rfl)(e:uW Tryz.prog f=true:=by kernel_rfl)(d:Nat.ble (pI (I5 func)).length 64=true:=by kernel_rfl)
  (c:cC Tryz.prog (gl Tryz.prog) fn.ntmps (64*f) (hX fn.body) (I5 func)=some (fn.body,[]):=by kernel_rfl) (b:func.ntmps=fn.ntmps:=by kernel_rfl) (a:C8 Tryz.prog func.results.toList=some fn.results:=by kernel_rfl):OK f fn:=ajs h1 g e (dC d) c b a
def amy:=fk Mw func3
def amz:=fk XM func8
def amB:=fk XP func12
def an0:=fk Ng func13
def aqn:=fk OX func14
def amC:=fk My func15
def aqc:=fk OR func16
def apP:=fk Oz func17
def amD:=fk Mz func18
def amE:=fk MA func19
def amG:=fk MC func20
def amH:=fk Fg func21
def amI:=fk Fh func22
def amJ:=fk Fi func23
def amK:=fk XQ func24
def aoG:=fk Yk func25
def amL:=fk XR func28
def amM:=fk XS func29
def amO:=fk XU func30
def amP:=fk XV func32
def amQ:=fk XW func33
def amR:=fk XX func35
def amS:=fk XY func37
def aqk:=fk YJ func39
def apW:=fk OE func40
def amU:=fk A6 func41
def aqh:=fk OW func42
def amV:=fk XZ func45
def amW:=fk X1 func46
def amX:=fk X3 func47
def amY:=fk yE func48
def amZ:=fk A7 func49
def aqi:=fk ID func50
def aqj:=fk IE func51
def aqK:=fk II func52
def aqL:=fk O8 func53
def aqM:=fk O9 func54
def am1:=fk Fj func55
def aqu:=fk IF func56
def aqv:=fk Bd func57
def aqw:=fk O1 func58
def aqx:=fk O2 func59
def am3:=fk MG func60
def am4:=fk MH func61
def am5:=fk MI func62
def am6:=fk Im func63
def am7:=fk MJ func64
def am8:=fk MK func65
def am9:=fk X4 func66
def aoZ:=fk NV func67
def ana:=fk Fk func68
def anb:=fk ML func69
def ane:=fk X5 func70
def aql:=fk YK func71
def aqm:=fk YL func72
