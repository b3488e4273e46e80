/- Part 35 of TableHurry. -/
import Derived.Test.YtnaefnajkaohgaaGreatDoorProg
import Derived.Test.YtnaefnajkaohgaaGreatDoorG07
set_option linter.all false
namespace Go.Proofs.YtnaefnajkaohgaaGreatDoor
open Go Go.AL
def hX:IR→List (List Nat)
 | .seq a b=>hX a++hX b
 | .cond _ a b=>hX a++hX b
 | .block _ l a=>l::hX a
 | .loop l a=>l::hX a
 | .jY _ l _=>[l]
 | _=>[]
abbrev OK:=xg Tryz.prog (gl Tryz.prog)
theorem fk{f:FuncId}{fn:eA}{func:Func}(h1:Tryz.prog.funcs[f]? = some func)(h2:func.body=some (E' func):=by kernel_rfl)(h3:nI Tryz.prog f=true:=by kernel_rfl)(h4:Nat.ble (k9 (E' func)).length 64=true:=by kernel_rfl)
  (h5:cC Tryz.prog (gl Tryz.prog) fn.ntmps (64*f) (hX fn.body) (E' func)=some (fn.body,[]):=by kernel_rfl) (h6:func.ntmps=fn.ntmps:=by kernel_rfl) (h7:tz Tryz.prog func.results.toList=some fn.results:=by kernel_rfl):OK f fn:=Qn h1 h2 h3 (dh h4) h5 h6 h7
theorem Xv:OK 7 F7:=fk Tryz.func7
theorem Uy:OK 11 II:=fk Tryz.func11
theorem UJ:OK 12 Am:=fk Tryz.func12
theorem UT:OK 13 Ap:=fk Tryz.func13
theorem U5:OK 14 AA:=fk Tryz.func14
theorem Vf:OK 15 AK:=fk Tryz.func15
theorem Vy:OK 17 I2:=fk Tryz.func17
theorem VE:OK 18 I4:=fk Tryz.func18
theorem V0:OK 20 I':=fk Tryz.func20
theorem Wd:OK 22 Jd:=fk Tryz.func22
theorem Wp:OK 24 Ji:=fk Tryz.func24
theorem Wx:OK 25 Bp:=fk Tryz.func25
theorem WG:OK 26 w7:=fk Tryz.func26
theorem WN:OK 27 Bz:=fk Tryz.func27
theorem WO:OK 28 BA:=fk Tryz.func28
theorem WV:OK 31 Jn:=fk Tryz.func31
theorem WW:OK 32 w8:=fk Tryz.func32
theorem WX:OK 33 w9:=fk Tryz.func33
theorem WY:OK 34 BF:=fk Tryz.func34
theorem WZ:OK 35 BG:=fk Tryz.func35
theorem W0:OK 36 BH:=fk Tryz.func36
theorem W1:OK 37 xa:=fk Tryz.func37
theorem W2:OK 38 BI:=fk Tryz.func38
theorem W3:OK 39 BJ:=fk Tryz.func39
theorem W4:OK 40 BK:=fk Tryz.func40
theorem W5:OK 42 Jo:=fk Tryz.func42
theorem W6:OK 45 Jp:=fk Tryz.func45
theorem W7:OK 46 BL:=fk Tryz.func46
theorem W8:OK 47 BM:=fk Tryz.func47
theorem W9:OK 48 vf:=fk Tryz.func48
theorem Xa:OK 49 rT:=fk Tryz.func49
theorem Xb:OK 50 BN:=fk Tryz.func50
theorem Xc:OK 51 BO:=fk Tryz.func51
theorem Xd:OK 52 xb:=fk Tryz.func52
theorem Xe:OK 54 Jq:=fk Tryz.func54
theorem Xf:OK 57 xc:=fk Tryz.func57
theorem Xh:OK 58 BP:=fk Tryz.func58
theorem Xi:OK 59 BQ:=fk Tryz.func59
theorem Xj:OK 60 xd:=fk Tryz.func60
theorem Xl:OK 61 BR:=fk Tryz.func61
theorem Xm:OK 62 BS:=fk Tryz.func62
