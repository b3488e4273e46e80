/- Part 28 of DisputeReferee. -/
import Derived.Test.YtmehofoficaelaaGreatDoorR08
set_option linter.all false
namespace Go.Proofs.YtmehofoficaelaaGreatDoor
open Go Go.AL Tryz
def hX:IR->List (List Nat)
 | .seq a b=>hX a++hX b
 | .cond _ a b=>hX a++hX b
 | .block _ l a=>l::hX a
 | .loop l a=>l::hX a
 | .nv _ l _=>[l]
 | _=>[]
abbrev OK:=DY Tryz.prog (gl Tryz.prog)
theorem fk{f:FuncId}{func:Func}(fn:iP)(h1:Tryz.prog.funcs[f]? = some func)(g:func.body=some (Ec func):=by kernel_rfl)(e:rT Tryz.prog f=true:=by kernel_rfl)(d:Nat.ble (mW (Ec func)).length 64=true:=by kernel_rfl)
  (c:cC Tryz.prog (gl Tryz.prog) fn.ntmps (64*f) (hX fn.body) (Ec func)=some (fn.body,[]):=by kernel_rfl) (b:func.ntmps=fn.ntmps:=by kernel_rfl) (a:zG Tryz.prog func.results.toList=some fn.results:=by kernel_rfl):OK f fn:=acD h1 g e (cN d) c b a
def afh:=fk DG func7
def afi:=fk RG func8
def agn:=fk HW func13
def afk:=fk Hk func18
def afm:=fk RH func20
def afn:=fk RI func24
def agZ:=fk Iw func25
def afo:=fk Hm func26
def afp:=fk Ho func28
def afq:=fk xM func29
def afs:=fk xN func30
def afu:=fk RJ func32
def afv:=fk RK func33
def afw:=fk RL func35
def afx:=fk RM func37
def aiv:=fk DT func39
def ah7:=fk Jk func40
def afz:=fk xO func41
def ais:=fk Sh func42
def afA:=fk Hs func44
def afB:=fk vf func48
def afC:=fk xP func49
def ait:=fk DR func50
def aiu:=fk DS func51
def aiE:=fk DU func56
def aiF:=fk JE func58
def afF:=fk Hu func60
def afG:=fk DI func63
def afH:=fk Hv func64
def ahh:=fk II func67
def afJ:=fk RN func70
def aiw:=fk Jz func71
def aix:=fk JA func72
def afK:=fk vg func73
