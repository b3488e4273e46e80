/- Part 35 of the proof of skewer.skewerlaw15.TableZero. -/
import Derived.Test.YtnaefnajkaohgaaGreatDoorProg
import Derived.Test.YtnaefnajkaohgaaGreatDoorF07
set_option linter.all false
namespace Go.Proofs.YtnaefnajkaohgaaGreatDoor
open Go Go.AL
def hX:IR→List (List Nat)
 | .seq a b=>hX a++hX b
 | .cond _ a b=>hX a++hX b
 | .block _ l a=>l::hX a
 | .loop l a=>l::hX a
 | .jQ _ l _=>[l]
 | _=>[]
abbrev OK:=wZ Tryz.prog (gl Tryz.prog)
theorem fk{f:FuncId}{fn:ey}{func:Func}(h1:Tryz.prog.funcs[f]? = some func)(h2:func.body=some (EX func):=by kernel_rfl)(h3:nB Tryz.prog f=true:=by kernel_rfl)(h4:Nat.ble (kX (EX func)).length 64=true:=by kernel_rfl)
  (h5:cC Tryz.prog (gl Tryz.prog) fn.ntmps (64*f) (hX fn.body) (EX func)=some (fn.body,[]):=by kernel_rfl) (h6:func.ntmps=fn.ntmps:=by kernel_rfl) (h7:te Tryz.prog func.results.toList=some fn.results:=by kernel_rfl):OK f fn:=P3 h1 h2 h3 (dh h4) h5 h6 h7
theorem WZ:OK 6 F6:=fk Tryz.func6
theorem Ug:OK 11 Iq:=fk Tryz.func11
theorem Ur:OK 12 Ac:=fk Tryz.func12
theorem UB:OK 13 Af:=fk Tryz.func13
theorem UM:OK 14 Aq:=fk Tryz.func14
theorem UY:OK 15 AA:=fk Tryz.func15
theorem Vg:OK 17 IK:=fk Tryz.func17
theorem Vl:OK 18 IM:=fk Tryz.func18
theorem VH:OK 20 IU:=fk Tryz.func20
theorem VV:OK 22 IY:=fk Tryz.func22
theorem V5:OK 24 I3:=fk Tryz.func24
theorem Wb:OK 25 Bg:=fk Tryz.func25
theorem Wl:OK 26 wQ:=fk Tryz.func26
theorem Wu:OK 27 Bq:=fk Tryz.func27
theorem Wz:OK 31 I8:=fk Tryz.func31
theorem WA:OK 32 wR:=fk Tryz.func32
theorem WB:OK 33 wS:=fk Tryz.func33
theorem WC:OK 34 Bv:=fk Tryz.func34
theorem WD:OK 35 Bw:=fk Tryz.func35
theorem WE:OK 36 Bx:=fk Tryz.func36
theorem WG:OK 37 wT:=fk Tryz.func37
theorem WH:OK 38 By:=fk Tryz.func38
theorem WI:OK 39 Bz:=fk Tryz.func39
theorem WJ:OK 40 BA:=fk Tryz.func40
theorem WK:OK 42 I9:=fk Tryz.func42
theorem WL:OK 45 I':=fk Tryz.func45
theorem WM:OK 46 BB:=fk Tryz.func46
theorem WN:OK 47 BC:=fk Tryz.func47
theorem WO:OK 48 u0:=fk Tryz.func48
theorem WQ:OK 49 rH:=fk Tryz.func49
theorem WR:OK 50 BD:=fk Tryz.func50
theorem WT:OK 51 BE:=fk Tryz.func51
theorem WU:OK 52 wU:=fk Tryz.func52
theorem WV:OK 54 Ja:=fk Tryz.func54
theorem WW:OK 57 wV:=fk Tryz.func57
theorem WX:OK 58 BF:=fk Tryz.func58
theorem WY:OK 59 BG:=fk Tryz.func59
theorem W0:OK 60 wW:=fk Tryz.func60
theorem W1:OK 61 BH:=fk Tryz.func61
theorem W2:OK 62 BI:=fk Tryz.func62
